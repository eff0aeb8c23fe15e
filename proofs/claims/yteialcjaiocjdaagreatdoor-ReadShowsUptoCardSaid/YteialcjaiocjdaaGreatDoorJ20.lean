/-
  Parts of the proof: Ldigits Lnum. By an AI agent.
-/
import Derived.Test.YteialcjaiocjdaaGreatDoorJ19
import Derived.Test.YteialcjaiocjdaaGreatDoorJ18
import Derived.Maps.Own
import Derived.Maps.OwnSet
import Derived.Maps.Views
open Go.Proofs.Tryz
set_option maxRecDepth 100000
set_option maxHeartbeats 8000000
namespace Go.Proofs.YteialcjaiocjdaaGreatDoor
section
open Go.RowKit Go.Lib Go.Proofs
attribute [local go_sem ↓] Go.wp_at_zero Go.wp_at_succ
theorem qU:type_of% @UInt8.ofNat_toNat:=@UInt8.ofNat_toNat
theorem qV:type_of% @List.map_map:=@List.map_map
def cG:Ending:=.panicked [{ v:=.iface 100 (.agg #[]),recovered:=false }]
theorem fe(w:World):Calls prog 92 #[.bool true] w fun e w'=>e=.returned (.tuple #[])/\w=w':=by(go_enter func92,ntmps92);go_wp2_with fail;go_end0;exact⟨rfl,rfl⟩
theorem dN(w:World):Calls prog 92 #[.bool false] w fun e w'=>e=cG/\w=w':=by(go_enter func92,ntmps92);go_wp2_with fail;exact⟨rfl,rfl,rfl⟩
def Pf(w:World)(r:Option Nat)(e:Ending)(w':World):Prop:=
 Below w w w'/\match r with
 |some v=>e=.returned (.int .i64 (v:Int))
 |none=>e=cG
def ue(radix:Nat)(r:List UInt8)(v:Nat):Option Nat->Option Nat
 |none=>none
 |some d=>if d<radix then fA radix r (v*radix+d)else none
theorem r6(radix:Nat)(c:UInt8)(r:List UInt8)(v:Nat):fA radix (c::r) v=ue radix r v (ij c.toNat):=by rw[fA];cases ij c.toNat<;>rfl
theorem GN(c d:Nat)(D:ij c=some d):d<=15:=by
 unfold ij at D;split at D
 ·injection D with D;omega
 ·split at D
  ·injection D with D;omega
  ·split at D
   ·injection D with D;omega
   ·cases D
theorem r7(c:Nat)(h:128<=c):ij c=none:=by unfold ij;rw[gB (by omega),gB (by omega),gB (by omega)]
theorem D3(s:ByteArray)(i:Nat):(Utf8.decode s i).1<2000000:=by
 have I:=ml s i;rw[ny,I9];split
 ·simp only;omega
 ·split
  ·split<;>simp only<;>omega
  ·split
   ·split<;>simp only<;>omega
   ·split
    ·split
     ·rename_i D;have:=D.2;unfold Utf8.valid at this;simp at this;simp only;omega
     ·simp only;omega
    ·simp only;omega
theorem AV(s:ByteArray)(n:Nat):(s.extract 0 n).data.toList=s.data.toList.take n:=by rw[Lib.extract_data];simp
theorem ol(s:ByteArray)(n radix:Nat)(hn:n<=8)(hr:radix<=16)(w:World):
  Calls prog 187 #[s,(n:Int),(radix:Int)] w (Pf w (cA s.data.toList n radix)):=by
 obtain⟨R,hR⟩:∃R,R=cA s.data.toList n radix:=⟨_,rfl⟩;rw[<-hR];have HR:=hid hR;clear hR;have h:s.data.toList.length=s.size:=rfl;by_cases O:n<=s.size
 rotate_left
 ·have U:Hid (R=none):=hid (by rw[HR.out,cA,gB (by rw[h];exact O)]);(have hd:decide (n<=s.size)=false:=by rw[gK];exact O);(have gr:decide ((n:Int)<=(s.size:Int))=false:=by rw[gK];omega);clear O HR h;(go_enter func187,ntmps187);go_wp2_with fail;refine(dN _).mono ?_;rintro e w2⟨rfl,rfl⟩;unfold cG;refine⟨rfl,?_⟩;rw[U.out];exact⟨gH _ _,rfl⟩
 have gn:Hid (fA radix ((s.extract 0 n).data.toList) 0=R):=hid (by rw[HR.out,cA,gG (by rw[h];exact O),AV]);have gs:=hid (show(s.extract 0 n).size=n by rw[jV];omega);(have hd:decide (n<=s.size)=true:=by rw[gR];exact O);(have gr:decide ((n:Int)<=(s.size:Int))=true:=by rw[gR];omega);(have p0:(0:Int)<=(n:Int):=by omega);clear HR h;(go_enter func187,ntmps187);go_wp2_with fail;refine(fe _).mono ?_;rintro e w2⟨rfl,rfl⟩;go_wp2_with fail;have gd:=qF w (s.extract 0 n) 0;have gm:Below w w (w.iter (s.extract 0 n) 0):=(gH _ w).alloc (gC _) _;generalize s.extract 0 n=t at *;(have gx:t.size<=8:=by have:=gs.out;omega);go_loopg [7,9,10,20,21] t.size (fun g u7 _ _ _ _ wr=>∃j v:Nat,j<=t.size/\t.size-j<=g/\wr.heap[w.heap.size]? = some (.stringIter t j)/\Below w w wr/\u7=.int .i64 (v:Int)/\v<16^j/\fA radix (t.data.toList.drop j) v=R)
 case atStart=>exact⟨0,0,gQ _,by omega,gd,gm,rfl,by decide,by rw[qu];exact gn.out⟩
 case round=>
  clear gd gm gn;obtain⟨j,v,hj,gy,hit,hB,rfl,gv,hq⟩:=hrel;have gh:=hid hit;have HQ:=hid hq;clear hit hq;(have gw:v<4294967296:=by have h1:(16:Nat)^j<=16^8:=Nat.pow_le_pow_right (by omega) (by omega);(have h2:(16:Nat)^8=4294967296:=by decide);omega);by_cases J:j<t.size
  ·have D:=fun ty=>qP (P:=prog) wr w.heap.size t j ty gh.out J;obtain⟨c,rr,ga,gg,ge⟩:=pI t j J;by_cases gb:aI t j<128
   ·have gl:=nZ t j gb;rw[gl]at D;have N:Hid (ue radix rr v (ij (aI t j))=R):=hid (by rw[<-HQ.out,ga,r6,gg]);have gt:=hid ge;have j1:=iterAt_heap wr w.heap.size t j (j+1) gh.out;have j2:Below w w (wr.iterAt w.heap.size t (j+1)):=eD hB (gC _);generalize wr.iterAt w.heap.size t (j+1)=W1 at D j1 j2;have J1:=hid j1;clear gl ga gg ge j1 HQ;generalize aI t j=bb at *;cases I:ij bb with
    |none=>have U:Hid (R=none):=hid (by rw[<-N.out,I];rfl);(have M:o8 bb = -1:=by unfold o8;rw[I]);clear N I;go_wp2_with fail;refine(nH bb (by omega) _).mono ?_;rw[M];rintro e w3⟨rfl,rfl⟩;go_wp2_with fail;refine(dN _).mono ?_;rintro e w3⟨rfl,rfl⟩;unfold cG;refine⟨rfl,?_⟩;rw[U.out];exact⟨j2,rfl⟩
    | some d=>
     (have M:o8 bb=(d:Int):=by unfold o8;rw[I]);have gu:=GN bb d I;(have e0:decide ((0:Int)<=(d:Int))=true:=by rw[gR];omega);by_cases yk:d<radix
     ·have U:Hid (fA radix rr (v*radix+d)=R):=hid (by rw[<-N.out,I,ue,gG yk]);(have e1:decide ((d:Int)<(radix:Int))=true:=by rw[gR];omega);have hp:v*radix<=4294967295*16:=Nat.mul_le_mul (by omega) hr;(have gp:v*radix+d<16^(j+1):=by have h1:v*radix<=v*16:=Nat.mul_le_mul_left _ hr;rw[Nat.pow_succ];omega);(have q1:IntKind.i64.wrap ((v:Int)*(radix:Int))=((v*radix:Nat):Int):=by rw[show(v:Int)*(radix:Int)=((v*radix:Nat):Int)by simp];exact jC _ (by omega));clear N I;generalize v*radix=p at *;have q2:IntKind.i64.wrap ((p:Int)+(d:Int))=(p:Int)+(d:Int):=jC _ (by omega);go_wp2_with fail;refine(nH bb (by omega) _).mono ?_;rw[M];rintro e w3⟨rfl,rfl⟩;go_wp2_with fail;refine(fe _).mono ?_;rintro e w3⟨rfl,rfl⟩;go_wp2_with fail;go_roundg (t.size-(j+1))
      case measure=>omega
      case rel=>exact⟨j+1,p+d,by omega,gC _,J1.out,j2,by go_num,gp,by rw[<-gt.out];exact U.out⟩
     ·have U:Hid (R=none):=hid (by rw[<-N.out,I,ue,gB yk]);(have e1:decide ((d:Int)<(radix:Int))=false:=by rw[gK];omega);clear N I;go_wp2_with fail;refine(nH bb (by omega) _).mono ?_;rw[M];rintro e w3⟨rfl,rfl⟩;go_wp2_with fail;refine(dN _).mono ?_;rintro e w3⟨rfl,rfl⟩;unfold cG;refine⟨rfl,?_⟩;rw[U.out];exact⟨j2,rfl⟩
   ·have hh:=decode_high t j J (by omega);have gi:=D3 t j;have U:Hid (R=none):=hid (by rw[<-HQ.out,ga,r6,r7 _ (by omega)];rfl);have gj:=hh.1;clear hh gb ga gg ge;generalize Utf8.decode t j=q at *;obtain⟨r,k⟩:=q;simp only at gj D gi;have j2:Below w w (wr.iterAt w.heap.size t (j+k)):=eD hB (gC _);generalize wr.iterAt w.heap.size t (j+k)=W1 at D j2;(have M:o8 r = -1:=by unfold o8;rw[r7 r gj]);go_wp2_with fail;refine(nH r gi _).mono ?_;rw[M];rintro e w3⟨rfl,rfl⟩;go_wp2_with fail;refine(dN _).mono ?_;rintro e w3⟨rfl,rfl⟩;unfold cG;refine⟨rfl,?_⟩;rw[U.out];exact⟨j2,rfl⟩
  ·have gq:=fun ty=>qQ (P:=prog) wr w.heap.size t j ty gh.out J;have U:Hid (R=some v):=hid (by rw[<-HQ.out,kz (by have:t.data.toList.length=t.size:=rfl;omega),fA]);go_wp2_with fail;go_ret;rw[U.out];exact⟨hB,rfl⟩
def Fs:List (Int×Int):=[(97,7),(98,8),(102,12),(110,10),(114,13),(116,9),(118,11),(92,92),(34,34)]
def D4{H:Type}(D:DataW H):List (Int×Int)->DataW H
 |[]=>D
 |p::r=>D4 (D.put (.int .u8 p.1) (.lit (.int .u8 p.2))) r
theorem r8{H:Type}(w:World){ops:Array Oper}{rest:List Oper}{o:Oper}{a:Act}{Q:Exit->Act->World->Prop}
  (hg:o.guard=none)(m:Operand)(kk vv:Int)(O:o.op=Op.insert 146 m (.const (.int .u8 kk)) (.const (.int .u8 vv)))(hk:0<=kk/\kk<=255)(ga:0<=vv/\vv<=255)(b n:Nat)(D:DataW H)
  (hm:a.eval m=.map (some b))(J:w.ownsMap prog 5 (plainElem prog 5) b n D)(hn:n<100)
  (hK:∀w',w'.ownsMap prog 5 (plainElem prog 5) b (n+1) (D.put (.int .u8 kk) (.lit (.int .u8 vv)))->w.grownBy w' (some b)->wpList prog ops Q rest (a.put o.dst undef) w'):
  wpList prog ops Q (o::rest) a w:=by refine vj hg fun K' hK'=>?_;(have N:(Lit.int .u8 kk).wf=true:=by simp[Lit.wf,IntKind.min,IntKind.max,IntKind.signed,IntKind.bits];omega);(have M:(Lit.int .u8 vv).wf=true:=by simp[Lit.wf,IntKind.min,IntKind.max,IntKind.signed,IntKind.bits];omega);obtain⟨w',I,h,U⟩:=J.update (Maps.int_keyed underlying5) underlying146 (by unfold maxLen;omega) (Maps.keyOf_int_mk underlying5 N) (plainElem_int underlying5 M);unfold Oper.wp;have e1:a.eval (.const (.int .u8 kk))=.int .u8 kk:=rfl;have e2:a.eval (.const (.int .u8 vv))=.int .u8 vv:=rfl;simp[execOp,O,hm,e1,e2,I,Result.andThen];exact hK' _ _ (hK w' h U)
theorem Si(w7:World)(g7 c7:Nat)(h:w7.cell? ⟨g7,0,none⟩=some (.int .u8 48)):(convert 27 9 (.slice (some ⟨g7,0,none⟩) 1 c7)).run prog w7=.ok (.string ⟨#[48]⟩) w7:=
 run_convert_bytes_back (P:=prog) w7 27 9 5 ⟨g7,0,none⟩ c7 [48] underlying27 underlying5 underlying9 (fun j hj=>by(obtain rfl:j=0:=by simpa using hj);exact h)
theorem yU{B:Nat}{w w':World}{e:TypeId}{n:Nat}{v:Value}{xs:List Value}(h:w.ownsRow B e 1 v n xs)(D:∀g,v.ownBlock=some g->w'.heap[g]? = w.heap[g]?):w'.ownsRow B e 1 v n xs:=by
 refine⟨h.1,?_⟩;rcases h.2 with M|⟨g,cap,cur,e,J,I,r⟩
 ·exact .inl M
 ·exact .inr ⟨g,cap,cur,e,J,(D g (by rw[e];rfl)).trans I,r⟩
theorem LC(s:ByteArray)(w:World)(I:s.size<2\/aI s 0≠48):Calls prog 88 #[s] w fun e w'=>e=.returned (.tuple #[.int .i64 10,s])/\w=w':=by
 by_cases D:s.size<2
 ·(have M:decide ((s.size:Int)<2)=true:=by rw[gR];omega);clear D;(go_enter func88,ntmps88);go_wp2_with fail;go_ret2;exact⟨rfl,rfl⟩
 (have M:decide ((s.size:Int)<2)=false:=by rw[gK];omega);have J:∀W,(Instr.index 9 (.string s) (.int .i64 0)).run prog W=.ok (.int .u8 (aI s 0:Int)) W:=fun W=>lV s 0 (by omega) W;generalize aI s 0=a at *;(have ea:((a:Int) != 48)=true:=by rw[vc];omega);clear I D;(go_enter func88,ntmps88);go_wp2_with fail;go_ret2;exact⟨rfl,rfl⟩
def om(v:List Nat):ByteArray:=⟨((if v=[]then[0]else v.reverse).map fun d=>UInt8.ofNat (48+d)).toArray⟩
def AW:List UInt8->List Nat->List Nat
 |[],v=>v
 |c::r,v=>AW r (eJ 10 v (c.toNat-48))
theorem tL:∀(v:List Nat)(m:Nat),m<10->(∀x∈v,x<10)->v≠[]->v.getLast? ≠ some 0->eJ 10 v m=m::v
 |[],_,_,_,h,_=>absurd rfl h
 |[x],m,M,D,_,J=>by have I:=D x (by simp);have N:x≠0:=fun e=>J (by rw[e];rfl);rw[eJ,eJ,show(x*10+m)%10=m by omega,show(x*10+m)/10=x by omega];unfold i7;rw[gB N,gG I]
 |x::y::v,m,M,D,_,J=>by have I:=D x (by simp);rw[eJ,show(x*10+m)%10=m by omega,show(x*10+m)/10=x by omega,tL (y::v) x I (fun z hz=>D z (by simp at hz |-;exact .inr hz)) (by simp) (by rwa [List.getLast?_cons_cons]at J)]
theorem tM:∀(l:List UInt8)(v:List Nat),l.all dY=true->(∀x∈v,x<10)->v≠[]->v.getLast? ≠ some 0->AW l v=(l.map fun c=>c.toNat-48).reverse++v
 |[],v,_,_,_,_=>rfl
 |c::r,v,I,J,M,N=>by rw[jX,gA]at I;have D:=I.1;unfold dY at D;rw[gA,gD,gD]at D;have U:48<=c.toNat:=D.1;have O:c.toNat<=57:=D.2;rw[AW,tL v _ (by omega) J M N,tM r _ I.2 (fun x hx=>by rcases List.mem_cons.1 hx with rfl|hx;omega;exact J x hx) (by simp) (by cases v with|nil=>exact absurd rfl M|cons y v=>rwa [List.getLast?_cons_cons])];simp
theorem sV{c:UInt8}(h:dY c=true):48<=c.toNat/\c.toNat<=57:=by unfold dY at h;rw[gA,gD,gD]at h;exact h
theorem GO{s:ByteArray}(h:cW s=true):(1<=s.size/\s.size<=200)/\(s.size<2\/aI s 0≠48)/\s.data.toList.all dY=true/\om (AW s.data.toList [])=s:=by
 unfold cW at h;rw[gA,gI,gD]at h;obtain⟨D,h⟩:=h;rcases h with rfl|h
 ·decide +kernel
 ·rw[gA,gA,gD,gD,gD]at h;obtain⟨U,O,N⟩:=h;obtain⟨⟨l⟩⟩:=s;cases l with
  |nil=>exact absurd rfl U
  |cons a r=>have J:a≠48:=fun e=>N (by rw[e];rfl);have I:a.toNat≠48:=fun e=>J (UInt8.toNat_inj.1 e);refine⟨⟨Nat.succ_le_succ (gQ _),O⟩,.inr I,D,?_⟩;have D:(a::r).all dY=true:=D;rw[jX,gA]at D;have ha:=sV D.1;show om (AW (a::r) [])=_;rw[AW,eJ,i7,gB (by omega),gG (by omega),tM r [a.toNat-48] D.2 (fun x hx=>by simp at hx;omega) (by simp) (by simp;omega)];unfold om;rw[gB (by simp),List.reverse_append,List.reverse_reverse];congr 2;show UInt8.ofNat (48+(a.toNat-48))::(r.map fun c=>c.toNat-48).map (fun d=>UInt8.ofNat (48+d))=a::r;rw[show 48+(a.toNat-48)=a.toNat by omega,qU,qV];congr 1;(conv=>rhs;rw[<-List.map_id r]);refine List.map_congr_left fun c M=>?_;have M:=sV (List.all_eq_true.1 D.2 c M);show UInt8.ofNat (48+(c.toNat-48))=c;rw[show 48+(c.toNat-48)=c.toNat by omega,qU]
theorem uL(t:ByteArray)(w:World)(hp:cW t=true):Calls prog 67 #[t] w fun e w'=>e=.returned (.tuple #[t,.int .i64 0])/\Below w w w':=by
 obtain⟨⟨gw,jq⟩,hz,gl,gm⟩:=GO hp;have hn:=hid (LC t w hz);have HF:Hid (∀j,j<t.size->∃c rr,t.data.toList.drop j=c::rr/\c.toNat=aI t j/\rr=t.data.toList.drop (j+1)/\48<=aI t j/\aI t j<=57):=hid (by intro j hj;obtain⟨c,rr,h1,h2,h3⟩:=pI t j hj;have:=sV (List.all_eq_true.1 gl c (qA (by rw[h1];exact vb)));exact⟨c,rr,h1,h2,h3,by omega,by omega⟩);have gn:=hid gm;(have h4:decide ((200:Int)<(t.size:Int))=false:=by rw[gK];omega);(have gp:t≠⟨#[]⟩:=fun h=>by rw[h]at gw;exact absurd gw (by decide));(have g0:t.toList.isEmpty=false:=by rw[ao];exact gP gp);(have gz:(t.toList==[])=false:=by rw[<-cy];exact gP gp);have jt:∀W,(Instr.index 9 (.string t) (.int .i64 0)).run prog W=.ok (.int .u8 (aI t 0:Int)) W:=fun W=>lV t 0 (by omega) W;(have ja:48<=aI t 0/\aI t 0<=57:=by obtain⟨c,rr,-,-,-,h⟩:=HF.out 0 (by omega);exact h);generalize aI t 0=h0 at *;(have jd:((h0:Int)==95)=false:=by rw[gF];omega);have HZ:=hid hz;clear hp gl gm gp ja hz;(go_enter func67,ntmps67);go_wp2_with fail;refine hn.out.mono ?_;rintro e w1⟨rfl,rfl⟩;go_wp2_with fail;have yk:=qF w t 0;have hc:Below w w (w.iter t 0):=(gH _ w).alloc (gC _) _;generalize w.iter t 0=w2 at *;clear g0 gz jd;go_loopg [6,7,8,10,11,35,36] t.size (fun g u6 u7 u8 _ _ _ _ wr=>∃(j:Nat)(vl:List Nat),j<=t.size/\t.size-j<=g/\wr.heap[w.heap.size]? = some (.stringIter t j)/\pZ (w.heap.size+1) wr u6 vl/\(∀x∈vl,x<=9)/\vl.length<=2*j/\u7=.bool false/\u8=.int .i64 (j:Int)/\Below w w wr/\om (AW (t.data.toList.drop j) vl)=t)
 case atStart=>exact⟨0,[],gQ _,by omega,yk,qS _ _ _ _,(fun x hx=>by cases hx),gQ _,rfl,rfl,hc,by rw[qu];exact gn.out⟩
 case round=>
  clear yk hc hn gn;obtain⟨j,vl,hj,ju,hit,hO,h9,jp,rfl,rfl,hB,hq⟩:=hrel;have gh:=hid hO;have H9:=hid h9;have HQ:=hid hq;have jn:w.heap.size<wr.heap.size:=by
   rcases kL w.heap.size wr.heap.size with h|h
   ·exact h
   ·rw[kN h]at hit;cases hit
  clear hO h9 hq;by_cases N:j<t.size
  ·have M:=fun ty=>qP (P:=prog) wr w.heap.size t j ty hit N;obtain⟨c,rr,g3,g4,gx,g8,g6⟩:=HF.out j N;have hd:=nZ t j (by omega);rw[hd]at M;have HN:Hid (om (AW (t.data.toList.drop (j+1)) (eJ 10 vl (aI t j-48)))=t):=hid (by have:=HQ.out;rw[g3,AW,g4,gx]at this;exact this);have j1:=iterAt_heap wr w.heap.size t j (j+1) hit;have j2:Below w w (wr.iterAt w.heap.size t (j+1)):=eD hB (gC _);have j3:pZ (w.heap.size+1) (wr.iterAt w.heap.size t (j+1)) u6 vl:=Cs gh.out fun k hk _=>iterAt_other wr _ _ t _ (by omega);have hf:Hid (w.heap.size<(wr.iterAt w.heap.size t (j+1)).heap.size):=hid (by
    rcases kL w.heap.size (wr.iterAt w.heap.size t (j+1)).heap.size with h|h
    ·exact h
    ·rw[kN h]at j1;cases j1)
   generalize wr.iterAt w.heap.size t (j+1)=W1 at M j1 j2 j3 hf;have J1:=hid j1;have J3:=hid j3;clear hd g3 g4 gx j1 j3 HQ hit;generalize aI t j=bb at *;(have e1:((bb:Int)==95)=false:=by rw[gF];omega);(have jw:decide ((10:Int)<=((bb-48:Nat):Int))=false:=by rw[gK];omega);(have jv:decide (((bb-48:Nat):Int)<0)=false:=by rw[gK];omega);have qm:IntKind.i64.wrap ((j:Int)+1)=(j:Int)+1:=jC _ (by omega);have hl:=hid (fun W=>nH bb (by omega) W);rw[show o8 bb=((bb-48:Nat):Int)by unfold o8 ij;rw[gG ⟨g8,g6⟩]]at hl;have je:=hid (GM (w.heap.size+1) _ vl 10 (bb-48) W1 J3.out (by have:=hf.out;omega) H9.out (by omega) (by omega) (by omega));(have g1:bb-48<=15:=by omega);have jh:=hid (Ct 10 (by omega) vl (bb-48) H9.out g1);have jr:=sU 10 vl (bb-48);clear g8 g6 g1;generalize bb-48=d at *;go_wp2_with fail;refine(hl.out _).mono ?_;rintro e w3⟨rfl,rfl⟩;go_wp2_with fail;refine je.out.mono ?_;rintro e w4⟨v4,rfl,ha,gt⟩;have jf:=hid ha;have J4:=hid ((gt.block w.heap.size (vo _)).trans J1.out);have jk:=hid (j2.trans (gt.mono (by omega)));clear ha gt;go_wp2_with fail;go_roundg (t.size-(j+1))
   case measure=>omega
   case rel=>exact⟨j+1,eJ 10 vl d,by omega,gC _,J4.out,jf.out,jh.out,by omega,rfl,by go_num,jk.out,HN.out⟩
  ·have h8:=fun ty=>qQ (P:=prog) wr w.heap.size t j ty hit N;(have h5:j=t.size:=by omega);subst h5;have HN:Hid (om vl=t):=hid (by have:=HQ.out;rw[kz (show t.data.toList.length<=t.size from gC _)]at this;exact this);(have jy:((t.size:Int)==0)=false:=by rw[gF];omega);have jj:=hid (show(decide ((1:Int)<(t.size:Int))&&((h0:Int)==48))=false by
    rcases HZ.out with h|h
    ·rw[show decide ((1:Int)<(t.size:Int))=false by rw[gK];omega];rfl
    ·rw[show((h0:Int)==48)=false by rw[gF];omega,jL])
   clear HQ hit;obtain⟨A6,c6,hw,jx⟩:=pJ gh.out;subst hw;obtain⟨i0,hi,ht,hr,ho⟩:=qE infoByte;(have hy:vl.length<=400:=by omega);have q1:IntKind.i64.wrap ((vl.length:Int)+1)=(vl.length:Int)+1:=jC _ (by omega);have q2:IntKind.i64.wrap ((vl.length:Int)-1)=(vl.length:Int)-1:=jC _ (by omega);cases e2:decide ((1:Int)<(t.size:Int))<;>cases e3:((h0:Int)==48);all_goals
    first
     |(exfalso;have:=jj.out;rw[e2,e3]at this;cases this;done)
     | (
       go_wp2_with (at_make;refine wpList_make_own _ rfl (.const (.int .i64 0)) (.tmp 81) 27 rfl wr.heap.size 5 i0 _ 1 underlying27 hi ht hr .i64 .i64 _ (vl.length+1) rfl rfl (by rfl) (by rw[ho];omega) (by unfold maxLen;omega) (gC _) ?_;intro w5 hown5 I);have hh:=hid (show D0 wr.heap.size w5 (.slice (some ⟨wr,0,none⟩) 0 (vl.length+1)) []from hown5);have hg:Hid (pZ (w.heap.size+1) w5 (.slice A6 vl.length c6) vl):=hid (Cs gh.out fun k _ hk=>I.block k hk (by simp));have gi:Below wr wr w5:=⟨I.os,I.tape,I.output,I.size,fun k hk=>I.block k hk (by simp)⟩;have j0:=au hB gi;clear hown5 I;go_wp2_with fail;have jc:=gi.size;have jl:=H9.out;go_loopg [12,13] vl.length (fun gg u12 u13 wx=>∃k:Nat,k<=vl.length/\k<=gg/\u13=.int .i64 ((k:Int)-1)/\D0 wr.heap.size wx u12 ((vl.drop k).reverse.map fun d=>UInt8.ofNat (48+d))/\pZ (w.heap.size+1) wx (.slice A6 vl.length c6) vl/\Below wr wr wx)
       case atStart=>exact⟨vl.length,gC _,gC _,rfl,by rw[List.drop_length];exact hh.out,hg.out,gi⟩
       case round=>
        rename World=>wx;clear hh hg gi jc;obtain⟨k,hk,js,rfl,gr,g9,gs⟩:=hrel;have ga:=hid gr;have gu:=hid g9;have jo:=gs.size;obtain⟨jm,he,gj,g5⟩:=pJ gr;rw[jR,List.length_reverse,jH]at gj g5;clear gr g9;subst gj;cases k with
        |succ D=>
         rw[show((D+1:Nat):Int)-1=(D:Int)by omega];(have gq:D<vl.length:=by omega);obtain⟨g,c',hv,h7,h6⟩:=qM gu.out (by omega);injection hv with e1 e2 e3;subst e1 e3;clear e2;have U:=qT gu.out D (by omega);rw[List.getElem?_map,gT gq]at U;have hu:=jl _ (gS gq);have ji:=hid (kF gq);simp only[qf]at U;generalize vl[D]=x at *;(have p0:(0:Int)<=(D:Int):=by omega);(have p1:(D:Int)<(vl.length:Int):=by omega);have q3:IntKind.i64.wrap (48+(x:Int))=48+(x:Int):=jC _ (by omega);have q4:IntKind.u8.wrap (48+(x:Int))=48+(x:Int):=IntWalk.u8_in _ (by omega);have q5:IntKind.i64.wrap ((D:Int)-1)=(D:Int)-1:=jC _ (by omega);have HU:=hid (show(48+(x:Int))=((UInt8.ofNat (48+x)).toNat:Int)by rw[UInt8.toNat_ofNat'];omega);have gb:=hid (show((vl.drop (D+1)).reverse.map fun d=>UInt8.ofNat (48+d)).length=vl.length-(D+1)by rw[jR,List.length_reverse,jH]);have HE:=hid (show((vl.drop (D+1)).reverse.map fun d=>UInt8.ofNat (48+d))++[UInt8.ofNat (48+x)]=(vl.drop D).reverse.map fun d=>UInt8.ofNat (48+d)by rw[ji.out,List.reverse_cons,kS];rfl);clear hu;generalize hLL:((vl.drop (D+1)).reverse.map fun d=>UInt8.ofNat (48+d))=LL at *;go_wp2_with (at_builtin;refine r5 rfl (.tmp 90) (.tmp 97) rfl wr.heap.size _ _ LL (UInt8.ofNat (48+x)) _ (by rw[<-gb.out];rfl) _ rfl rfl HU.out ga.out (by omega) (by rw[gb.out];omega) ?_;intro g7 c7 w7 hO7 ge);have jb:pZ (w.heap.size+1) w7 (.slice (some ⟨g,0,none⟩) vl.length c6) vl:=yU gu.out fun q hq=>ge.block q (va gh.out q hq).2;go_roundg D
         case measure=>omega
         case rel=>exact⟨D,by omega,gC _,rfl,by rw[<-HE.out];exact hO7,jb,gs.trans ge⟩
        |zero=>
         rw[show((0:Nat):Int)-1 = -1 by omega];have gb:=hid (show((vl.drop 0).reverse.map fun d=>UInt8.ofNat (48+d)).length=vl.length by rw[jR,List.length_reverse,jH];omega);have hm:=hid (au hB gs);by_cases gd:vl=[]
         ·subst gd;have gv:=hid (show⟨#[48]⟩=t from HN.out);have J:=ga.out;clear HN gb;go_wp2_with (at_builtin;refine r5 rfl (.tmp 102) (.tmp 103) rfl wr.heap.size _ _ [] 48 _ rfl _ rfl rfl rfl J (by omega) (by simp) ?_;intro g7 c7 w7 hO7 ge;have g2:=Si w7 g7 c7 (qT hO7 0 (by decide)));go_ret2;rw[<-gv.out];exact⟨rfl,hm.out.trans (ge.mono (by have:=hB.size;omega))⟩
         ·have gv:=hid (show⟨(vl.reverse.map fun d=>UInt8.ofNat (48+d)).toArray⟩=t by have:=HN.out;rw[om,gB gd]at this;exact this);rw[Nat.sub_zero]at ga |-;have gy:0<vl.length:=Nat.pos_of_ne_zero fun h=>gd (jS h);(have jz:((vl.length:Int)==0)=false:=by rw[gF];omega);have jg:=hid (show D0 wr.heap.size wx (.slice jm vl.length he) (vl.reverse.map fun d=>UInt8.ofNat (48+d))from ga.out);(have O:(vl.reverse.map fun d=>UInt8.ofNat (48+d)).length=vl.length:=by rw[jR,List.length_reverse]);have J:=jg.out;unfold D0 at J;rw[O]at J;obtain⟨g7,c7,hv,h7,h6⟩:=qM J gy;injection hv with e1 e2 e3;subst e1 e3;clear e2;have g2:=run_convert_bytes_back (P:=prog) wx 27 9 5 ⟨g7,0,none⟩ he (vl.reverse.map fun d=>UInt8.ofNat (48+d)) underlying27 underlying5 underlying9 (fun j hj=>by rw[oX,kR,qT J j (by omega),List.getElem?_map,gT hj];rfl);rw[O]at g2;generalize(⟨(vl.reverse.map fun d=>UInt8.ofNat (48+d)).toArray⟩:ByteArray)=SS at *;clear O J HN gb ga gd;go_wp2_with fail;go_ret2;rw[<-gv.out];exact⟨rfl,hm.out⟩)
end
end Go.Proofs.YteialcjaiocjdaaGreatDoor
