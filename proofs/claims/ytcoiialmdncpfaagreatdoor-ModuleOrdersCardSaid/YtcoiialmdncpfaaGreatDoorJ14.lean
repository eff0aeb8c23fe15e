/-
  Parts of the proof: Ldigits Lnum Lpart. By an AI agent.
-/
import Derived.Test.YtcoiialmdncpfaaGreatDoorJ13
import Derived.Test.YtcoiialmdncpfaaGreatDoorJ12
import Derived.Maps.Own
import Derived.Maps.OwnSet
import Derived.Maps.Views
import Derived.Deep.RegionLaw
import Derived.Maps.OwnOps
open Go.Proofs.Tryz
set_option maxRecDepth 100000
set_option maxHeartbeats 8000000
namespace Go.Proofs.YtcoiialmdncpfaaGreatDoor
section
open Go.RowKit Go.Lib Go.Proofs
attribute [local go_sem ↓] Go.wp_at_zero Go.wp_at_succ
theorem p5:type_of% @List.length_reverse:=@List.length_reverse
def bw:Ending:=.panicked [{ v:=.iface 227 (.agg #[]),recovered:=false }]
theorem cv(w:World):Calls prog 182 #[.bool true] w fun e w'=>e=.returned (.tuple #[])/\w=w':=by(go_enter func182,ntmps182);go_wp2_with fail;go_end0;exact⟨rfl,rfl⟩
theorem bM(w:World):Calls prog 182 #[.bool false] w fun e w'=>e=bw/\w=w':=by(go_enter func182,ntmps182);go_wp2_with fail;exact⟨rfl,rfl,rfl⟩
def Nb(w:World)(r:Option Nat)(e:Ending)(w':World):Prop:=
 Below w w w'/\match r with
 |some v=>e=.returned (.int .i64 (v:Int))
 |none=>e=bw
def tV(radix:Nat)(r:List UInt8)(v:Nat):Option Nat->Option Nat
 |none=>none
 |some d=>if d<radix then fg radix r (v*radix+d)else none
theorem rE(radix:Nat)(c:UInt8)(r:List UInt8)(v:Nat):fg radix (c::r) v=tV radix r v (dg c.toNat):=by rw[fg];cases dg c.toNat<;>rfl
theorem F6(c d:Nat)(D:dg c=some d):d<=15:=by
 unfold dg at D;split at D
 ·injection D with D;omega
 ·split at D
  ·injection D with D;omega
  ·split at D
   ·injection D with D;omega
   ·cases D
theorem rF(c:Nat)(h:128<=c):dg c=none:=by unfold dg;rw[gE (by omega),gE (by omega),gE (by omega)]
theorem D6(s:ByteArray)(i:Nat):(Utf8.decode s i).1<2000000:=by
 have I:=il s i;rw[im,Dv];split
 ·simp only;omega
 ·split
  ·split<;>simp only<;>omega
  ·split
   ·split<;>simp only<;>omega
   ·split
    ·split
     ·rename_i D;have:=D.2;unfold Utf8.valid at this;simp at this;simp only;omega
     ·simp only;omega
    ·simp only;omega
theorem AY(s:ByteArray)(n:Nat):(s.extract 0 n).data.toList=s.data.toList.take n:=by rw[xi];simp
theorem nr(s:ByteArray)(n radix:Nat)(hn:n<=8)(hr:radix<=16)(w:World):
  Calls prog 277 #[s,(n:Int),(radix:Int)] w (Nb w (bS s.data.toList n radix)):=by
 obtain⟨R,hR⟩:∃R,R=bS s.data.toList n radix:=⟨_,rfl⟩;rw[<-hR];have HR:=hid hR;clear hR;have y:s.data.toList.length=s.size:=rfl;by_cases h:n<=s.size
 rotate_left
 ·have x:Hid (R=none):=hid (by rw[HR.out,bS,gE (by rw[y];exact h)]);(have hd:decide (n<=s.size)=false:=by rw[gH];exact h);(have gq:decide ((n:Int)<=(s.size:Int))=false:=by rw[gH];omega);clear h HR y;(go_enter func277,ntmps277);go_wp2_with fail;refine(bM _).mono ?_;rintro e w2⟨rfl,rfl⟩;unfold bw;refine⟨rfl,?_⟩;rw[x.out];exact⟨gC _ _,rfl⟩
 have gm:Hid (fg radix ((s.extract 0 n).data.toList) 0=R):=hid (by rw[HR.out,bS,gL (by rw[y];exact h),AY]);have gr:=hid (show(s.extract 0 n).size=n by rw[gW];omega);(have hd:decide (n<=s.size)=true:=by rw[jB];exact h);(have gq:decide ((n:Int)<=(s.size:Int))=true:=by rw[jB];omega);(have p0:(0:Int)<=(n:Int):=by omega);clear HR y;(go_enter func277,ntmps277);go_wp2_with fail;refine(cv _).mono ?_;rintro e w2⟨rfl,rfl⟩;go_wp2_with fail;have gb:=qJ w (s.extract 0 n) 0;have gl:Below w w (w.iter (s.extract 0 n) 0):=(gC _ w).alloc (gA _) _;generalize s.extract 0 n=t at *;(have gw:t.size<=8:=by have:=gr.out;omega);go_loopg [7,9,10,20,21] t.size (fun g u7 _ _ _ _ wr=>∃j v:Nat,j<=t.size/\t.size-j<=g/\wr.heap[w.heap.size]? = some (.stringIter t j)/\Below w w wr/\u7=.int .i64 (v:Int)/\v<16^j/\fg radix (t.data.toList.drop j) v=R)
 case atStart=>exact⟨0,0,gT _,by omega,gb,gl,rfl,by decide,by rw[qU];exact gm.out⟩
 case round=>
  clear gb gl gm;obtain⟨j,v,hj,gx,hit,hB,rfl,gu,hq⟩:=hrel;have gg:=hid hit;have HQ:=hid hq;clear hit hq;(have gv:v<4294967296:=by have h1:(16:Nat)^j<=16^8:=Nat.pow_le_pow_right (by omega) (by omega);(have h2:(16:Nat)^8=4294967296:=by decide);omega);by_cases J:j<t.size
  ·have D:=fun ty=>qV (P:=prog) wr w.heap.size t j ty gg.out J;obtain⟨c,rr,z,ge,gd⟩:=lw t j J;by_cases ga:ai t j<128
   ·have yk:=io t j ga;rw[yk]at D;have O:Hid (tV radix rr v (dg (ai t j))=R):=hid (by rw[<-HQ.out,z,rE,ge]);have gs:=hid gd;have j1:=qZ wr w.heap.size t j (j+1) gg.out;have j2:Below w w (wr.iterAt w.heap.size t (j+1)):=bx hB (gA _);generalize wr.iterAt w.heap.size t (j+1)=W1 at D j1 j2;have J1:=hid j1;clear yk z ge gd j1 HQ;generalize ai t j=bb at *;cases I:dg bb with
    |none=>have x:Hid (R=none):=hid (by rw[<-O.out,I];rfl);(have M:mq bb = -1:=by unfold mq;rw[I]);clear O I;go_wp2_with fail;refine(eM bb (by omega) _).mono ?_;rw[M];rintro e w3⟨rfl,rfl⟩;go_wp2_with fail;refine(bM _).mono ?_;rintro e w3⟨rfl,rfl⟩;unfold bw;refine⟨rfl,?_⟩;rw[x.out];exact⟨j2,rfl⟩
    | some d=>
     (have M:mq bb=(d:Int):=by unfold mq;rw[I]);have gt:=F6 bb d I;(have e0:decide ((0:Int)<=(d:Int))=true:=by rw[jB];omega);by_cases gj:d<radix
     ·have x:Hid (fg radix rr (v*radix+d)=R):=hid (by rw[<-O.out,I,tV,gL gj]);(have e1:decide ((d:Int)<(radix:Int))=true:=by rw[jB];omega);have hp:v*radix<=4294967295*16:=Nat.mul_le_mul (by omega) hr;(have gn:v*radix+d<16^(j+1):=by have h1:v*radix<=v*16:=Nat.mul_le_mul_left _ hr;rw[Nat.pow_succ];omega);(have q1:IntKind.i64.wrap ((v:Int)*(radix:Int))=((v*radix:Nat):Int):=by rw[show(v:Int)*(radix:Int)=((v*radix:Nat):Int)by simp];exact gQ _ (by omega));clear O I;generalize v*radix=p at *;have q2:IntKind.i64.wrap ((p:Int)+(d:Int))=(p:Int)+(d:Int):=gQ _ (by omega);go_wp2_with fail;refine(eM bb (by omega) _).mono ?_;rw[M];rintro e w3⟨rfl,rfl⟩;go_wp2_with fail;refine(cv _).mono ?_;rintro e w3⟨rfl,rfl⟩;go_wp2_with fail;go_roundg (t.size-(j+1))
      case measure=>omega
      case rel=>exact⟨j+1,p+d,by omega,gA _,J1.out,j2,by go_num,gn,by rw[<-gs.out];exact x.out⟩
     ·have x:Hid (R=none):=hid (by rw[<-O.out,I,tV,gE gj]);(have e1:decide ((d:Int)<(radix:Int))=false:=by rw[gH];omega);clear O I;go_wp2_with fail;refine(eM bb (by omega) _).mono ?_;rw[M];rintro e w3⟨rfl,rfl⟩;go_wp2_with fail;refine(bM _).mono ?_;rintro e w3⟨rfl,rfl⟩;unfold bw;refine⟨rfl,?_⟩;rw[x.out];exact⟨j2,rfl⟩
   ·have hh:=eC t j J (by omega);have gh:=D6 t j;have x:Hid (R=none):=hid (by rw[<-HQ.out,z,rE,rF _ (by omega)];rfl);have gi:=hh.1;clear hh ga z ge gd;generalize Utf8.decode t j=q at *;obtain⟨r,k⟩:=q;simp only at gi D gh;have j2:Below w w (wr.iterAt w.heap.size t (j+k)):=bx hB (gA _);generalize wr.iterAt w.heap.size t (j+k)=W1 at D j2;(have M:mq r = -1:=by unfold mq;rw[rF r gi]);go_wp2_with fail;refine(eM r gh _).mono ?_;rw[M];rintro e w3⟨rfl,rfl⟩;go_wp2_with fail;refine(bM _).mono ?_;rintro e w3⟨rfl,rfl⟩;unfold bw;refine⟨rfl,?_⟩;rw[x.out];exact⟨j2,rfl⟩
  ·have gp:=fun ty=>qL (P:=prog) wr w.heap.size t j ty gg.out J;have x:Hid (R=some v):=hid (by rw[<-HQ.out,jZ (by have:t.data.toList.length=t.size:=rfl;omega),fg]);go_wp2_with fail;go_ret;rw[x.out];exact⟨hB,rfl⟩
def EW:List (Int×Int):=[(97,7),(98,8),(102,12),(110,10),(114,13),(116,9),(118,11),(92,92),(34,34)]
def D7{H:Type}(D:DataW H):List (Int×Int)->DataW H
 |[]=>D
 |p::r=>D7 (D.put (.int .u8 p.1) (.lit (.int .u8 p.2))) r
theorem rG{H:Type}(w:World){ops:Array Oper}{rest:List Oper}{o:Oper}{a:Act}{Q:Exit->Act->World->Prop}
  (hg:o.guard=none)(m:Operand)(kk vv:Int)(h:o.op=Op.insert 282 m (.const (.int .u8 kk)) (.const (.int .u8 vv)))(hk:0<=kk/\kk<=255)(y:0<=vv/\vv<=255)(b n:Nat)(D:DataW H)
  (z:a.eval m=.map (some b))(J:w.ownsMap prog 5 (plainElem prog 5) b n D)(hn:n<100)
  (hK:∀w',w'.ownsMap prog 5 (plainElem prog 5) b (n+1) (D.put (.int .u8 kk) (.lit (.int .u8 vv)))->w.grownBy w' (some b)->wpList prog ops Q rest (a.put o.dst undef) w'):
  wpList prog ops Q (o::rest) a w:=by refine vJ hg fun K' hK'=>?_;(have O:(Lit.int .u8 kk).wf=true:=by simp[Lit.wf,IntKind.min,IntKind.max,IntKind.signed,IntKind.bits];omega);(have M:(Lit.int .u8 vv).wf=true:=by simp[Lit.wf,IntKind.min,IntKind.max,IntKind.signed,IntKind.bits];omega);obtain⟨w',I,x,q⟩:=J.update (Maps.int_keyed underlying5) underlying282 (by unfold maxLen;omega) (Maps.keyOf_int_mk underlying5 O) (plainElem_int underlying5 M);unfold Oper.wp;have e1:a.eval (.const (.int .u8 kk))=.int .u8 kk:=rfl;have e2:a.eval (.const (.int .u8 vv))=.int .u8 vv:=rfl;simp[execOp,h,z,e1,e2,I,Result.andThen];exact hK' _ _ (hK w' x q)
def bO(s:ByteArray):Nat×ByteArray:=
 if s.size<2\/ai s 0≠48 then(10,s)
 else if ai s 1=120\/ai s 1=88 then(16,s.extract 2 s.size)
 else if ai s 1=98\/ai s 1=66 then(2,s.extract 2 s.size)
 else if ai s 1=111\/ai s 1=79 then(8,s.extract 2 s.size)
 else(8,s.extract 1 s.size)
theorem Cz(l:List UInt8)(t:ByteArray)(h:t.data.toList=l):t=⟨l.toArray⟩:=by subst h;rfl
theorem Nc(s:ByteArray):ug s.data.toList=((bO s).1,(bO s).2.data.toList):=by
 unfold bO ai;have D:s.size=s.data.toList.length:=rfl;cases I:s.data.toList with
 |nil=>(have h0:s.size=0:=by rw[D,I];rfl);rw[gL (Or.inl (show s.size<2 by omega))];simp[ug,I]
 | cons a r=>
  cases J:r with
  |nil=>(have h0:s.size=1:=by rw[D,I,J];rfl);rw[gL (Or.inl (show s.size<2 by omega))];simp[ug,I,J]
  | cons b q=>
   rw[I,J]at D;simp at D;simp only[ug,List.getD_cons_zero,List.getD_cons_succ];by_cases h:a.toNat=48
   ·(have O:¬ (s.size<2\/a.toNat≠48):=by omega);(have y:(s.extract 2 s.size).data.toList=q:=by rw[d8,I,J];rfl);(have e1:(s.extract 1 s.size).data.toList=b::q:=by rw[d8,I,J];rfl);simp only[gL h,gE O];by_cases M:b.toNat=120\/b.toNat=88
    ·simp only[gL M,y]
    ·by_cases x:b.toNat=98\/b.toNat=66
     ·simp only[gE M,gL x,y]
     ·by_cases z:b.toNat=111\/b.toNat=79
      ·simp only[gE M,gE x,gL z,y]
      ·simp only[gE M,gE x,gE z,e1]
   ·have hy:s.size<2\/a.toNat≠48:=.inr h;simp only[gE h,gL hy,I,J]
theorem IJ(s:ByteArray)(w:World)(hs:s.size<=1000):Calls prog 178 #[s] w fun e w'=>e=.returned (.tuple #[.int .i64 ((bO s).1:Int),.string (bO s).2])/\Below w w w':=by
 by_cases q:s.size<2
 ·have I:=hid (show bO s=(10,s)by unfold bO;rw[gL (.inl q)]);(have e2:decide ((s.size:Int)<2)=true:=by rw[jB];omega);clear q;(go_enter func178,ntmps178);go_wp2_with fail;go_ret2;exact⟨by rw[I.out];rfl,gC _ _⟩
 (have e2:decide ((s.size:Int)<2)=false:=by rw[gH];omega);have ga:∀W,(Instr.index 9 (.string s) (.int .i64 0)).run prog W=.ok (.int .u8 (ai s 0:Int)) W:=fun W=>ce s 0 (by omega) W;have z:∀W,(Instr.index 9 (.string s) (.int .i64 1)).run prog W=.ok (.int .u8 (ai s 1:Int)) W:=fun W=>ce s 1 (by omega) W;(have p2:(2:Int)<=(s.size:Int):=by omega);(have p1:(1:Int)<=(s.size:Int):=by omega);have h:bO s=if ai s 0≠48 then(10,s)else if ai s 1=120\/ai s 1=88 then(16,s.extract 2 s.size)
  else if ai s 1=98\/ai s 1=66 then(2,s.extract 2 s.size)else if ai s 1=111\/ai s 1=79 then(8,s.extract 2 s.size)else(8,s.extract 1 s.size):=by
  unfold bO
  by_cases O:ai s 0≠48
  ·rw[gL (.inr O),gL O]
  ·rw[gE (by omega),gE O]
 have I:=hid h;clear h;generalize ai s 0=a at *;generalize ai s 1=b at *;by_cases M:a=48
 rotate_left
 ·have D:=hid (show bO s=(10,s)by rw[I.out,gL M]);(have ea:((a:Int) != 48)=true:=by rw[kE];omega);clear M I;(go_enter func178,ntmps178);go_wp2_with fail;go_ret2;exact⟨by rw[D.out];rfl,gC _ _⟩
 subst M;by_cases hb:b=120\/b=88\/b=98\/b=66\/b=111\/b=79
 ·rcases hb with rfl|rfl|rfl|rfl|rfl|rfl;all_goals have D:=I.out;simp at D;have D:=hid D;clear I;(go_enter func178,ntmps178);go_wp2_with fail;go_quiet (fail);have J:=az (gC w.heap.size w) nq;go_wp2_with fail;go_ret2;exact⟨by rw[D.out];rfl,J⟩
 have D:=hid (show bO s=(8,s.extract 1 s.size)by rw[I.out,gE (by omega),gE (by omega),gE (by omega),gE (by omega)]);(have x:((b:Int)==120)=false:=by rw[gD];omega);(have gd:((b:Int)==88)=false:=by rw[gD];omega);(have gb:((b:Int)==98)=false:=by rw[gD];omega);(have gg:((b:Int)==66)=false:=by rw[gD];omega);(have y:((b:Int)==111)=false:=by rw[gD];omega);(have ge:((b:Int)==79)=false:=by rw[gD];omega);clear hb;clear I;(go_enter func178,ntmps178);go_wp2_with fail;go_quiet (fail);have J:=az (gC w.heap.size w) nq;go_wp2_with fail;go_ret2;exact⟨by rw[D.out];rfl,J⟩
def tW(radix:Nat)(r:List UInt8)(v:List Nat)(many:Nat):Option Nat->Option (List Nat×Bool×Nat)
 |none=>none
 |some d=>if d<radix then eX radix r (dR radix v d) false (many+1)else none
theorem D8(radix:Nat)(c:UInt8)(r:List UInt8)(v:List Nat)(line:Bool)(many:Nat):
  eX radix (c::r) v line many=if c.toNat=95/\line=false then eX radix r v true many else tW radix r v many (dg c.toNat):=by
 rw[eX];split
 ·rfl
 ·cases dg c.toNat<;>rfl
theorem Oz(w7:World)(g7 c7:Nat)(h:w7.cell? ⟨g7,0,none⟩=some (.int .u8 48)):(convert 22 9 (.slice (some ⟨g7,0,none⟩) 1 c7)).run prog w7=.ok (.string ⟨#[48]⟩) w7:=
 run_convert_bytes_back (P:=prog) w7 22 9 5 ⟨g7,0,none⟩ c7 [48] underlying22 underlying5 underlying9 (fun j hj=>by(obtain rfl:j=0:=by simpa using hj);exact h)
theorem yU{B:Nat}{w w':World}{e:TypeId}{n:Nat}{v:Value}{xs:List Value}(h:w.ownsRow B e 1 v n xs)(D:∀g,v.ownBlock=some g->w'.heap[g]? = w.heap[g]?):w'.ownsRow B e 1 v n xs:=by
 refine⟨h.1,?_⟩;rcases h.2 with M|⟨g,cap,cur,e,J,I,r⟩
 ·exact .inl M
 ·exact .inr ⟨g,cap,cur,e,J,(D g (by rw[e];rfl)).trans I,r⟩
theorem Nf(s:ByteArray):(bO s).1<=16/\2<=(bO s).1/\(bO s).2.size<=s.size:=by
 unfold bO;have D:=dA s 2;have I:=dA s 1;split
 ·exact⟨by omega,by omega,gA _⟩
 ·split
  ·exact⟨by omega,by omega,by simp only;omega⟩
  ·split
   ·exact⟨by omega,by omega,by simp only;omega⟩
   ·split
    ·exact⟨by omega,by omega,by simp only;omega⟩
    ·exact⟨by omega,by omega,by simp only;omega⟩
theorem ti(c:Nat)(h:128<=c):dg c=none:=by unfold dg;rw[gE (by omega),gE (by omega),gE (by omega)]
def fW(w:World)(r:Option ByteArray)(e:Ending)(w':World):Prop:=
 Below w w w'/\match r with
 |some t=>e=.returned (.tuple #[.string t,.int .i64 0])
 |none=>∃n:Int,n≠0/\e=.returned (.tuple #[.string ⟨#[]⟩,.int .i64 n])
def mr(radix:Nat)(h0:Nat)(R:Option (List Nat×Bool×Nat)):Option ByteArray:=
 match R with
 |none=>none
 |some (v,line,many)=>if line=true\/many=0\/(radix=10/\1<many/\h0=48)then none else some (lW v)
theorem Ea(t:ByteArray):(t.data.toList.headD 0).toNat=ai t 0:=by unfold ai;cases t.data.toList<;>rfl
theorem F7(s:ByteArray):lX s=if 200<s.size then none else if(bO s).1=10/\((bO s).2=⟨#[]⟩\/ai (bO s).2 0=95)then none
  else mr (bO s).1 (ai (bO s).2 0) (eX (bO s).1 (bO s).2.data.toList [] false 0):=by
 unfold lX;rw[Nc];simp only[Ea];have M:((bO s).2.data.toList=[])=((bO s).2=⟨#[]⟩):=by
  rw[eq_iff_iff];constructor
  ·intro h;have:=Cz [] _ h;exact this
  ·intro h;rw[h]
 (have I:((bO s).1=10/\((bO s).2.data.toList=[]\/ai (bO s).2 0=95))↔((bO s).1=10/\((bO s).2=⟨#[]⟩\/ai (bO s).2 0=95)):=by rw[M]);by_cases D:200<s.size
 ·rw[gL D,gL D]
 ·rw[gE D,gE D];by_cases J:(bO s).1=10/\((bO s).2.data.toList=[]\/ai (bO s).2 0=95)
  ·rw[gL J,gL (I.1 J)]
  ·rw[gE J,gE (fun h=>J (I.2 h))];unfold mr;cases eX (bO s).1 (bO s).2.data.toList [] false 0<;>rfl
theorem F8(s:ByteArray)(i:Nat):(Utf8.decode s i).1<2000000:=by
 have I:=il s i;rw[im,Dv];split
 ·simp only;omega
 ·split
  ·split<;>simp only<;>omega
  ·split
   ·split<;>simp only<;>omega
   ·split
    ·split
     ·rename_i D;have:=D.2;unfold Utf8.valid at this;simp at this;simp only;omega
     ·simp only;omega
    ·simp only;omega
theorem we (s:ByteArray)(w:World)(hs:s.size<=65536):Calls prog 134 #[s] w (fW w (lX s)):=by
 rw[F7];by_cases gs:200<s.size
 ·have HR:=hid (gL gs:(if 200<s.size then none else if(bO s).1=10/\((bO s).2=⟨#[]⟩\/ai (bO s).2 0=95)then none
   else mr (bO s).1 (ai (bO s).2 0) (eX (bO s).1 (bO s).2.data.toList [] false 0))=none)
  rw[HR.out];(have jy:(200:Int)<(s.size:Int):=by omega);clear HR gs;(go_enter func134,ntmps134);go_wp2_with fail;go_ret2;exact⟨gC _ _,12,by decide,rfl⟩
 rw[gE gs];(have jy:¬ (200:Int)<(s.size:Int):=by omega);have gx:=hid (fun w=>IJ s w (by omega));obtain⟨gr,j8,j7⟩:=Nf s;(have jv:(bO s).2.size<=200:=by omega);generalize bO s=bt at *;obtain⟨radix,t⟩:=bt;simp only at gr j8 j7 jv gx;simp only;obtain⟨O,hO⟩:∃O,O=(if radix=10/\(t=⟨#[]⟩\/ai t 0=95)then none else mr radix (ai t 0) (eX radix t.data.toList [] false 0)):=⟨_,rfl⟩
 rw[<-hO];have HO:=hid hO;clear hO;have he:∀v line many,mr radix (ai t 0) (some (v,line,many))=if line=true\/many=0\/(radix=10/\1<many/\ai t 0=48)then none else some (lW v):=fun _ _ _=>rfl;have gw:=hid he;clear he;have hu:0<t.size->∀W,(Instr.index 9 (.string t) (.int .i64 0)).run prog W=.ok (.int .u8 (ai t 0:Int)) W:=fun h W=>ce t 0 h W;have gt:=hid hu;clear hu;have g5:=hid (show t.size=0->t=⟨#[]⟩from fun h=>Cz [] t (jI h));by_cases I:radix=10/\(t=⟨#[]⟩\/ai t 0=95)
 ·have jm:Hid (O=none):=hid (by rw[HO.out,gL I]);obtain⟨rfl,I⟩:=I;by_cases ge:t=⟨#[]⟩
  ·subst ge;clear I HO gw gt g5;(go_enter func134,ntmps134);go_wp2_with fail;refine(gx.out _).mono ?_;rintro e w1⟨rfl,z⟩;go_wp2_with fail;go_ret2;rw[jm.out];exact⟨z,4,by decide,rfl⟩
  ·have g2:=I.resolve_left ge;have gm:=gt.out (Nat.pos_of_ne_zero fun h=>ge (g5.out h));rw[g2]at gm;(have gj:t.toList.isEmpty=false:=by rw[aF];exact gV ge);(have g9:(t.toList==[])=false:=by rw[<-bN];exact gV ge);clear I HO gw gt g5 ge g2;(go_enter func134,ntmps134);go_wp2_with fail;refine(gx.out _).mono ?_;rintro e w1⟨rfl,z⟩;go_wp2_with fail;go_ret2;rw[jm.out];exact⟨z,4,by decide,rfl⟩
 have jl:Hid (mr radix (ai t 0) (eX radix t.data.toList [] false 0)=O):=hid (by rw[HO.out,gE I]);have gq:(radix==10)=false\/((radix==10)=true/\t≠⟨#[]⟩/\ai t 0≠95):=by
  by_cases h:radix=10
  ·exact .inr ⟨beq_iff_eq.2 h,fun h2=>I ⟨h,.inl h2⟩,fun h2=>I ⟨h,.inr h2⟩⟩
  ·exact .inl (beq_eq_false_iff_ne.2 h)
 have ht:=hid gq;clear I gq;rcases ht.out with hr|⟨hr,gj,g2⟩;(have er:((radix:Int)==10)=false:=by rw[gD];have:=beq_eq_false_iff_ne.1 hr;omega);clear hr
 rotate_left
 (have er:((radix:Int)==10)=true:=by rw[kI];have:=beq_iff_eq.1 hr;omega);(have h4:t.toList.isEmpty=false:=by rw[aF];exact gV gj);(have g9:(t.toList==[])=false:=by rw[<-bN];exact gV gj);have gm:=gt.out (Nat.pos_of_ne_zero fun h=>gj (g5.out h));(have jg:((ai t 0:Int)==95)=false:=by rw[gD];omega);clear hr gj g2
 rotate_left
 all_goals
  (go_enter func134,ntmps134);go_wp2_with fail;refine(gx.out _).mono ?_;rintro e w1⟨rfl,z⟩;go_wp2_with fail;have hc:=qJ w1 t 0;have jf:Below w w (w1.iter t 0):=z.trans (((gC _ w1).alloc (gA _) _).mono z.size);have jc:=z.size;clear z;generalize w1.heap.size=b at *;generalize w1.iter t 0=w2 at *;(try clear h4 g9 jg gm);go_loopg [6,7,8,10,11,35,36] t.size (fun g u6 u7 u8 _ _ _ _ wr=>∃(j:Nat)(vl:List Nat)(line:Bool)(many:Nat),j<=t.size/\t.size-j<=g/\wr.heap[b]? = some (.stringIter t j)/\o5 (b+1) wr u6 vl/\(∀x∈vl,x<=9)/\vl.length<=2*j/\u7=.bool line/\u8=.int .i64 (many:Int)/\many<=j/\Below w w wr/\mr radix (ai t 0) (eX radix (t.data.toList.drop j) vl line many)=O)
  case atStart=>exact⟨0,[],false,0,gT _,by omega,hc,kP _ _ _ _,(fun x hx=>by cases hx),gT _,rfl,rfl,gA _,jf,by rw[qU];exact jl.out⟩
  case round=>
   clear hc jf jl gx;obtain⟨j,vl,line,many,hj,ko,hit,hO,h9,kl,rfl,rfl,km,hB,hq⟩:=hrel;have g4:=hid hit;have g3:=hid hO;have H9:=hid h9;have HQ:=hid hq;have kj:b<wr.heap.size:=by
    rcases kN b wr.heap.size with h|h
    ·exact h
    ·rw[kH h]at hit;cases hit
   clear hit hO h9 hq;by_cases y:j<t.size
   ·have M:=fun ty=>qV (P:=prog) wr b t j ty g4.out y;by_cases ha:ai t j<128
    ·obtain ⟨c,rr,gn,g0,gz⟩:=lw t j y;have hd:=io t j ha;rw[hd]at M;rw[gn]at HQ;have jk:=hid gz;have jo:=hid g0;have j1:=qZ wr b t j (j+1) g4.out;have j2:Below w w (wr.iterAt b t (j+1)):=bx hB jc;have j3:o5 (b+1) (wr.iterAt b t (j+1)) u6 vl:=Cw g3.out fun k hk _=>iterAt_other wr _ _ t _ (by omega);have ji:Hid (b<(wr.iterAt b t (j+1)).heap.size):=hid (by
      have h1:=qZ wr b t j (j+1) g4.out;rcases kN b (wr.iterAt b t (j+1)).heap.size with h|h
      ·exact h
      ·rw[kH h]at h1;cases h1)
     generalize wr.iterAt b t (j+1)=W1 at M j1 j2 j3 ji;have J1:=hid j1;have J3:=hid j3;clear hd gn g0 gz j1 j3;generalize hbb:ai t j=bb at *;clear hbb;by_cases h_:bb=95/\line=false
     ·obtain⟨rfl,rfl⟩:=h_;have J:Hid (mr radix (ai t 0) (eX radix rr vl true many)=O):=hid (by rw[<-HQ.out,eX,gL ⟨jo.out,rfl⟩]);go_wp2_with fail;refine(eM 95 (by omega) _).mono ?_;rintro e w3⟨rfl,rfl⟩;go_wp2_with fail;go_roundg (t.size-(j+1))
      case measure=>omega
      case rel=>exact⟨j+1,vl,true,many,by omega,gA _,J1.out,J3.out,H9.out,by omega,rfl,rfl,by omega,j2,by rw[<-jk.out];exact J.out⟩
     ·have gi:Hid (mr radix (ai t 0) (tW radix rr vl many (dg bb))=O):=hid (by rw[<-HQ.out,D8,jo.out,gE h_]);have e_:(((bb:Int)==95) && !line)=false:=by
       cases hl:line with
       |true=>simp
       |false=>rw[beq_eq_false_iff_ne.2 (by intro h;exact h_ ⟨by omega,hl⟩)];rfl
      have E_:=hid e_;clear h_ e_ HQ;cases D:dg bb with
      | none=>
       have J:Hid (O=none):=hid (by rw[<-gi.out,D];rfl);(have gh:mq bb = -1:=by unfold mq;rw[D]);clear gi D;cases e1:((bb:Int)==95)<;>cases line;all_goals
        first
         |(exfalso;have:=E_.out;rw[e1]at this;cases this;done)
         |(go_wp2_with fail;refine(eM bb (by omega) _).mono ?_;rw[gh];rintro e w3⟨rfl,rfl⟩;go_wp2_with fail;go_ret2;rw[J.out];exact⟨j2,4,by decide,rfl⟩)
      | some d=>
       (have gh:mq bb=(d:Int):=by unfold mq;rw[D]);have h7:d<=15:=by
        unfold dg at D;split at D
        ·injection D with D;omega
        ·split at D
         ·injection D with D;omega
         ·split at D
          ·injection D with D;omega
          ·cases D
       by_cases h6:d<radix
       ·have J:Hid (mr radix (ai t 0) (eX radix rr (dR radix vl d) false (many+1))=O):=hid (by rw[<-gi.out,D,tW,gL h6]);(have j6:decide ((radix:Int)<=(d:Int))=false:=by rw[gH];omega);(have j5:decide ((d:Int)<0)=false:=by rw[gH];omega);have qm:IntKind.i64.wrap ((many:Int)+1)=(many:Int)+1:=gQ _ (by omega);clear gi D;cases e1:((bb:Int)==95)<;>cases line;all_goals
         first
          |(exfalso;have:=E_.out;rw[e1]at this;cases this;done)
          | (go_wp2_with fail;refine(eM bb (by omega) _).mono ?_;rw[gh];rintro e w3⟨rfl,rfl⟩;go_wp2_with fail;refine(F5 (b+1) _ vl radix d W1 J3.out (by have:=ji.out;omega) H9.out gr h7 (by omega)).mono ?_;rintro e w4⟨v4,rfl,je,hn⟩;have kc:=hid je;have J4:=hid ((hn.block b (jO _)).trans J1.out);have kg:=hid (j2.trans (hn.mono (by omega)));clear je hn;go_wp2_with fail;go_roundg (t.size-(j+1))
             case measure=>omega
             case rel=>exact⟨j+1,dR radix vl d,false,many+1,by omega,gA _,J4.out,kc.out,Cy radix gr vl d H9.out h7,(by have:=sG radix vl d;omega),rfl,by go_num,by omega,kg.out,by rw[<-jk.out];exact J.out⟩)
       ·have J:Hid (O=none):=hid (by rw[<-gi.out,D,tW,gE h6];rfl);(have j6:decide ((radix:Int)<=(d:Int))=true:=by rw[jB];omega);(have j5:decide ((d:Int)<0)=false:=by rw[gH];omega);clear gi D;cases e1:((bb:Int)==95)<;>cases line;all_goals
         first
          |(exfalso;have:=E_.out;rw[e1]at this;cases this;done)
          |(go_wp2_with fail;refine(eM bb (by omega) _).mono ?_;rw[gh];rintro e w3⟨rfl,rfl⟩;go_wp2_with fail;go_ret2;rw[J.out];exact⟨j2,4,by decide,rfl⟩)
    ·obtain⟨c,rr,gn,g0,gz⟩:=lw t j y;have hh:=eC t j y (by omega);have hw:=F8 t j;have J:Hid (O=none):=hid (by rw[<-HQ.out,gn,eX,gE (by omega),ti _ (by omega)];rfl);have h5:=hh.1;clear hh ha gn g0 gz;generalize Utf8.decode t j=q at *;obtain⟨r,k⟩:=q;simp only at h5 M hw;have j2:Below w w (wr.iterAt b t (j+k)):=bx hB jc;generalize wr.iterAt b t (j+k)=W1 at M j2;(have jg:((r:Int)==95)=false:=by rw[gD];omega);(have gh:mq r = -1:=by unfold mq;rw[ti r h5]);go_wp2_with fail;refine(eM r hw _).mono ?_;rw[gh];rintro e w3⟨rfl,rfl⟩;go_wp2_with fail;go_ret2;rw[J.out];exact⟨j2,4,by decide,rfl⟩
   ·have j4:=fun ty=>qL (P:=prog) wr b t j ty g4.out y;have ga:=hid (show(if line=true\/many=0\/(radix=10/\1<many/\ai t 0=48)then none else some (lW vl))=O by rw[<-HQ.out,jZ (by have:t.data.toList.length=t.size:=rfl;omega),eX];exact(gw.out _ _ _).symm);clear HQ;cases line with
    |true=>have J:Hid (O=none):=hid (by rw[<-ga.out,gL (.inl rfl)]);clear ga;go_wp2_with fail;go_ret2;rw[J.out];exact⟨hB,4,by decide,rfl⟩
    | false=>
     by_cases yk:many=0
     ·have J:Hid (O=none):=hid (by rw[<-ga.out,gL (.inr (.inl yk))]);subst yk;clear ga;go_wp2_with fail;go_ret2;rw[J.out];exact⟨hB,4,by decide,rfl⟩
     ·(have kr:((many:Int)==0)=false:=by rw[gD];omega);(have jw:0<t.size:=by omega);have gm:=gt.out jw;by_cases hz:radix=10/\1<many/\ai t 0=48
      ·have J:Hid (O=none):=hid (by rw[<-ga.out,gL (.inr (.inr hz))]);(have kb:((radix:Int)==10)=true:=by rw[kI];omega);(have kq:decide ((1:Int)<(many:Int))=true:=by rw[jB];omega);rw[hz.2.2]at gm;clear ga hz yk;first
        |(exfalso;rw[kb]at er;cases er;done)
        |(go_wp2_with fail;go_ret2;rw[J.out];exact⟨hB,4,by decide,rfl⟩)
      ·have J:=hid (show O=some (lW vl)by rw[<-ga.out,gE (fun h=>by rcases h with h|h|h;(cases h);(exact yk h);(exact hz h))]);have HZ:=hid hz;clear ga hz yk;have ja:((((radix:Int)==10)&&decide ((1:Int)<(many:Int)))&&((ai t 0:Int)==48))=false:=by
        cases h1:((radix:Int)==10)with
        |false=>rfl
        |true=>
         cases h2:decide ((1:Int)<(many:Int))with
         |false=>rfl
         |true=>have h1:=beq_iff_eq.1 h1;have h2:=of_decide_eq_true h2;show((ai t 0:Int)==48)=false;rw[gD];intro h3;exact HZ.out ⟨by omega,by omega,by omega⟩
       have kf:=hid ja;clear ja;obtain⟨A6,c6,ju,kp⟩:=oM g3.out;subst ju;obtain⟨i0,hi,js,jr,jq⟩:=qr infoByte;(have jx:vl.length<=400:=by omega);have q1:IntKind.i64.wrap ((vl.length:Int)+1)=(vl.length:Int)+1:=gQ _ (by omega);have q2:IntKind.i64.wrap ((vl.length:Int)-1)=(vl.length:Int)-1:=gQ _ (by omega);generalize hb0:ai t 0=h0 at *;cases e1:((radix:Int)==10)<;>cases e2:decide ((1:Int)<(many:Int))<;>cases e3:((h0:Int)==48);all_goals
        first
         |(exfalso;have:=kf.out;rw[e1,e2,e3]at this;cases this;done)
         |(exfalso;rw[e1]at er;cases er;done)
         | (go_wp2_with (at_make;refine wpList_make_own _ rfl (.const (.int .i64 0)) (.tmp 81) 22 rfl wr.heap.size 5 i0 _ 1 underlying22 hi js jr .i64 .i64 _ (vl.length+1) rfl rfl (by rfl) (by rw[jq];omega) (by unfold maxLen;omega) (gA _) ?_;intro w5 hown5 gb);have jn:=hid (show D3 wr.heap.size w5 (.slice (some ⟨wr,0,none⟩) 0 (vl.length+1)) []from hown5);have jj:Hid (o5 (b+1) w5 (.slice A6 vl.length c6) vl):=hid (Cw g3.out fun k _ hk=>gb.block k hk (by simp));have g6:Below wr wr w5:=⟨gb.os,gb.tape,gb.output,gb.size,fun k hk=>gb.block k hk (by simp)⟩;have kt:=aE hB g6;clear hown5 gb;go_wp2_with fail;have ka:=g6.size;have kh:=H9.out;go_loopg [12,13] vl.length (fun gg u12 u13 wx=>∃k:Nat,k<=vl.length/\k<=gg/\u13=.int .i64 ((k:Int)-1)/\D3 wr.heap.size wx u12 ((vl.drop k).reverse.map fun d=>UInt8.ofNat (48+d))/\o5 (b+1) wx (.slice A6 vl.length c6) vl/\Below wr wr wx)
            case atStart=>exact⟨vl.length,gA _,gA _,rfl,by rw[List.drop_length];exact jn.out,jj.out,g6⟩
            case round=>
             rename World=>wx;clear jn jj g6 ka;obtain⟨k,hk,kn,rfl,hg,jd,hm⟩:=hrel;have gu:=hid hg;have ho:=hid jd;have kk:=hm.size;obtain⟨ki,jh,g8,jb⟩:=oM hg;rw[jN,p5,jE]at g8 jb;clear hg jd;subst g8;cases k with
             |succ k1=>
              rw[show((k1+1:Nat):Int)-1=(k1:Int)by omega];(have hf:k1<vl.length:=by omega);obtain⟨g,c',hv,j0,jz⟩:=qX ho.out (by omega);injection hv with e1 e2 e3;subst e1 e3;clear e2;have gp:=qG ho.out k1 (by omega);rw[xc,gO hf]at gp;have jt:=kh _ (jF hf);have ke:=hid (jX hf);simp only[xl]at gp;generalize vl[k1]=x at *;(have p0:(0:Int)<=(k1:Int):=by omega);(have p1:(k1:Int)<(vl.length:Int):=by omega);have q3:IntKind.i64.wrap (48+(x:Int))=48+(x:Int):=gQ _ (by omega);have q4:IntKind.u8.wrap (48+(x:Int))=48+(x:Int):=IntWalk.u8_in _ (by omega);have q5:IntKind.i64.wrap ((k1:Int)-1)=(k1:Int)-1:=gQ _ (by omega);have HU:=hid (show(48+(x:Int))=((UInt8.ofNat (48+x)).toNat:Int)by rw[UInt8.toNat_ofNat'];omega);have gv:=hid (show((vl.drop (k1+1)).reverse.map fun d=>UInt8.ofNat (48+d)).length=vl.length-(k1+1)by rw[jN,p5,jE]);have HE:=hid (show((vl.drop (k1+1)).reverse.map fun d=>UInt8.ofNat (48+d))++[UInt8.ofNat (48+x)]=(vl.drop k1).reverse.map fun d=>UInt8.ofNat (48+d)by rw[ke.out,List.reverse_cons,kW];rfl);clear jt;generalize hLL:((vl.drop (k1+1)).reverse.map fun d=>UInt8.ofNat (48+d))=LL at *;go_wp2_with (at_builtin;refine rD rfl (.tmp 90) (.tmp 97) rfl wr.heap.size _ _ LL (UInt8.ofNat (48+x)) _ (by rw[<-gv.out];rfl) _ rfl rfl HU.out gu.out (by omega) (by rw[gv.out];omega) ?_;intro g7 c7 w7 hO7 g1);have j9:o5 (b+1) w7 (.slice (some ⟨g,0,none⟩) vl.length c6) vl:=yU ho.out fun q hq=>g1.block q (qA g3.out q hq).2;go_roundg k1
              case measure=>omega
              case rel=>exact⟨k1,by omega,gA _,rfl,by rw[<-HE.out];exact hO7,j9,hm.trans g1⟩
             |zero=>
              rw[show((0:Nat):Int)-1 = -1 by omega];have gv:=hid (show((vl.drop 0).reverse.map fun d=>UInt8.ofNat (48+d)).length=vl.length by rw[jN,p5,jE];omega);have jp:=hid (aE hB hm);by_cases gy:vl=[]
              ·subst gy;have hp:=hid (show O=some ⟨#[48]⟩from J.out);have gd:=gu.out;clear J gv;go_wp2_with (at_builtin;refine rD rfl (.tmp 102) (.tmp 103) rfl wr.heap.size _ _ [] 48 _ rfl _ rfl rfl rfl gd (by omega) (by simp) ?_;intro g7 c7 w7 hO7 g1;have h8:=Oz w7 g7 c7 (qG hO7 0 (by decide)));go_ret2;rw[hp.out];exact⟨jp.out.trans (g1.mono (by have:=hB.size;omega)),rfl⟩
              ·have hp:=hid (show O=some ⟨(vl.reverse.map fun d=>UInt8.ofNat (48+d)).toArray⟩by rw[J.out,lW,gE gy]);rw[Nat.sub_zero]at gu |-;have hy:0<vl.length:=Nat.pos_of_ne_zero fun h=>gy (jI h);(have ks:((vl.length:Int)==0)=false:=by rw[gD];omega);have kd:=hid (show D3 wr.heap.size wx (.slice ki vl.length jh) (vl.reverse.map fun d=>UInt8.ofNat (48+d))from gu.out);(have gl:(vl.reverse.map fun d=>UInt8.ofNat (48+d)).length=vl.length:=by rw[jN,p5]);have gd:=kd.out;unfold D3 at gd;rw[gl]at gd;obtain⟨g7,c7,hv,j0,jz⟩:=qX gd hy;injection hv with e1 e2 e3;subst e1 e3;clear e2;have h8:=run_convert_bytes_back (P:=prog) wx 22 9 5 ⟨g7,0,none⟩ jh (vl.reverse.map fun d=>UInt8.ofNat (48+d)) underlying22 underlying5 underlying9 (fun j hj=>by rw[iU,kL,qG gd j (by omega),xc,gO hj];rfl);rw[gl]at h8;generalize(⟨(vl.reverse.map fun d=>UInt8.ofNat (48+d)).toArray⟩:ByteArray)=SS at *;clear gl gd J gv gu gy;go_wp2_with fail;go_ret2;rw[hp.out];exact⟨jp.out,rfl⟩)
theorem Eb{B:Nat}{w wk wl:World}{b:Nat}(h:Below B w wk)(D:wk.grownBy wl (some b))(hb:B<=b)(I:B<=wk.heap.size):Below B w wl:=
 h.trans ⟨D.os,D.tape,D.output,D.size,fun k hk=>D.block k (by omega) (fun e=>by injection e with e;omega)⟩
def D9:DataW Unit:=D7 (.map []) EW
theorem lS(w:World):Calls prog 276 #[] w fun e w'=>∃b,e=.returned (.map (some b))/\w'.ownsMap prog 5 (plainElem prog 5) b 9 D9/\w.heap.size<=b/\Below w w w':=by have I :=@run_makeMap prog;have D:=World.ownsMap_made (H:=Unit) w prog 5 (plainElem prog 5);have M:Below w w (w.alloc (.map #[] 0)):=(gC _ _).alloc (gA _) _;(go_enter func276,ntmps276);go_wp2_with (refine rG _ rfl (.tmp 1) _ _ rfl (by decide) (by decide) w.heap.size _ _ rfl (by assumption) (by decide) ?_;intro w1 hown1 hg1;have J:=Eb (w:=w) (by assumption) hg1 (gA _) (Below.size (by assumption));clear hg1);go_ret;exact⟨_,rfl,by assumption,gA _,by assumption⟩
theorem N1(c:Nat):D9.atKey (.int .u8 (c:Int)) (.lit (.int .u8 0))=.lit (.int .u8 (((eq c).getD 0:Nat):Int))/\Maps.has D9 (.int .u8 (c:Int))=(eq c).isSome:=by
 by_cases h1:c=97
 ·subst h1;exact⟨rfl,rfl⟩
 by_cases z:c=98
 ·subst z;exact⟨rfl,rfl⟩
 by_cases y:c=102
 ·subst y;exact⟨rfl,rfl⟩
 by_cases x:c=110
 ·subst x;exact⟨rfl,rfl⟩
 by_cases q:c=114
 ·subst q;exact⟨rfl,rfl⟩
 by_cases O:c=116
 ·subst O;exact⟨rfl,rfl⟩
 by_cases M:c=118
 ·subst M;exact⟨rfl,rfl⟩
 by_cases J:c=92
 ·subst J;exact⟨rfl,rfl⟩
 by_cases I:c=34
 ·subst I;exact⟨rfl,rfl⟩
 (have hs:eq c=none:=by unfold eq;simp only[h1,z,y,x,q,O,M,J,I,kK]);rw[hs];have D:∀k:Int,(c:Int)≠k->(Lit.int .u8 (c:Int))≠.int .u8 k:=fun k h e=>h (by injection e);unfold D9 EW;simp only[D7];constructor
 ·(repeat rw[Maps.atKey_put_other (D _ (by omega))]);rfl
 ·(repeat rw[Maps.has_put_other (D _ (by omega))]);rfl
theorem oo(b:Nat)(w:World)(I:w.ownsMap prog 5 (plainElem prog 5) b 9 D9)(c:Nat)(x:c<256):
  (Instr.lookup 282 (.map (some b)) (.int .u8 (c:Int)) true).run prog w=.ok (.tuple #[.int .u8 (((eq c).getD 0:Nat):Int),.bool (eq c).isSome]) w:=by(have J:(Lit.int .u8 (c:Int)).wf=true:=by simp[Lit.wf,IntKind.min,IntKind.max,IntKind.signed,IntKind.bits];omega);have q:(zeroValue 5).run prog w=.ok (.int .u8 0) w:=zeroValue5 w;obtain⟨v,ps,D,h⟩:=I.look_ok (Maps.int_keyed underlying5) underlying282 q (plainElem_int (H:=Unit) underlying5 (by decide)) (Maps.keyOf_int_mk underlying5 J);rw[(N1 c).1]at h;rw[(N1 c).2]at D;generalize(eq c).getD 0=vv at *;generalize(eq c).isSome=sb at *;obtain⟨c',rfl,M,_⟩:=plainElem_int_inv underlying5 h;have O:=qD Prod.fst M;simp only at O;simp only[DataW.lit.injEq,Lit.int.injEq,true_and]at O;subst O;exact D
theorem wg(radix:Nat):∀(l:List UInt8)(v x:Nat),fg radix l v=some x->x<(v+1)*radix^l.length
 |[],v,x,h=>by rw[fg]at h;injection h with h;simp;omega
 | c::r,v,x,h=>by
  rw[fg]at h;cases hd:dg c.toNat with
  |none=>rw[hd]at h;cases h
  |some d=>
   rw[hd]at h;simp only at h;split at h
   ·rename_i D;have:=wg radix r _ _ h;refine jY this ?_;rw[gI,Nat.pow_succ,Nat.mul_comm (radix^r.length) radix,<-Nat.mul_assoc];refine Nat.mul_le_mul_right _ ?_;rw[vS,xr];omega
   ·cases h
theorem nu{l:List UInt8}{n radix x m:Nat}(h:bS l n radix=some x)(D:radix^n<=m):x<m:=by
 unfold bS at h;split at h
 ·have:=wg radix _ _ _ h;rw[qO,Nat.min_eq_left (by assumption)]at this;omega
 ·cases h
theorem Ec{c x:Nat}(h:eq c=some x):x<=255:=by unfold eq at h;(repeat' split at h);all_goals first|(injection h with h;omega)|cases h
theorem IK(w7:World)(g7 c7:Nat)(b:Int)(D:0<=b)(hb:b<=255)(h:w7.cell? ⟨g7,0,none⟩=some (.int .u8 b)):(convert 22 9 (.slice (some ⟨g7,0,none⟩) 1 c7)).run prog w7=.ok (.string ⟨#[UInt8.ofNat b.toNat]⟩) w7:=by refine run_convert_bytes_back (P:=prog) w7 22 9 5 ⟨g7,0,none⟩ c7 [UInt8.ofNat b.toNat] underlying22 underlying5 underlying9 (fun j hj=>?_);(have:j=0:=by simp at hj;omega);subst this;rw[show w7.cell? (Addr.add ⟨g7,0,none⟩ 0)=some (.int .u8 b)from h];simp;rw[Int.emod_eq_of_lt (by omega) (by omega)];omega
theorem lz(r:Int):Lib.validRune r=Utf8.valid r:=by unfold Lib.validRune Utf8.valid;rw[jW];simp;omega
def pN(c:UInt8)(r:List UInt8):Option (List UInt8×Nat):=
 if c.toNat=120 then(bS r 2 16).map fun v=>([UInt8.ofNat v],3)
 else if c.toNat=117 then(bS r 4 16).bind fun v=>if Utf8.valid (v:Int)=true then some ((Utf8.encode (v:Int)).data.toList,5)else none
 else if c.toNat=85 then(bS r 8 16).bind fun v=>if Utf8.valid (v:Int)=true then some ((Utf8.encode (v:Int)).data.toList,9)else none
 else(bS (c::r) 3 8).bind fun v=>if v<=255 then some ([UInt8.ofNat v],3)else none
theorem wh(c:UInt8)(r:List UInt8)(h:eq c.toNat=none):i7 (c::r)=pN c r:=by rw[i7,h];rfl
def IL(w:World)(r:Option (List UInt8×Nat))(e:Ending)(w':World):Prop:=
 Below w w w'/\match r with
 |some p=>e=.returned (.tuple #[.string ⟨p.1.toArray⟩,.int .i64 (p.2:Int)])
 |none=>e=bw
theorem IM(s:ByteArray)(hs:s.size<=65536)(w:World):Calls prog 230 #[s] w (IL w (i7 s.data.toList)):=by
 obtain⟨R,hR⟩:∃R,R=i7 s.data.toList:=⟨_,rfl⟩;rw[<-hR];have HR:=hid hR;clear hR;have gt:s.data.toList.length=s.size:=rfl;by_cases hn:s.size=0
 ·(have gw:s=⟨#[]⟩:=by have hl:s.data.toList=[]:=jI (by omega);cases s;simp at hl;subst hl;rfl);subst gw;have HN:Hid (R=none):=hid HR.out;clear HR gt hn;(go_enter func230,ntmps230);go_wp2_with fail;refine(bM _).mono ?_;rintro e w2⟨rfl,rfl⟩;unfold bw;refine⟨rfl,?_⟩;rw[HN.out];exact⟨gC _ _,rfl⟩
 (have g1:s.toList.isEmpty=false:=by rw[aF];exact gV (by rintro rfl;exact hn rfl));obtain⟨c,rr,gr,gv,gq⟩:=lw s 0 (by omega);have g0:∀W,(Instr.index 9 (.string s) (.int .i64 0)).run prog W=.ok (.int .u8 (ai s 0:Int)) W:=fun W=>ce s 0 (by omega) W;have gl:=il s 0;have gy:Hid (s.data.toList=c::rr):=hid (by rw[<-gr,qU]);have HC:=hid (show R=i7 (c::rr)by rw[HR.out,<-gr,qU]);have gg:=hid gv;have gb:=hid (show(s.extract 1 s.size).data.toList=rr by rw[xi,<-gq,jU (by rw[gq,jE];omega)]);clear HR gr gv gq gt;generalize ai s 0=bb at *;(go_enter func230,ntmps230);go_wp2_with fail;refine(cv _).mono ?_;rintro e w2⟨rfl,rfl⟩;cases gk:eq bb with
 | some x=>
  have HS:=hid gk;clear gk;go_wp2_with fail;go_region_law (first
   |(go_simp;(go_at_call 276);refine(lS _).mono ?_;rintro e w3⟨b,rfl,D,gd,I⟩;have M:=(gC w.heap.size w).drew.trans I;have ga:=M.size;have J:=oo b w3 D bb gl;rw[HS.out]at J;simp only[Option.getD_some,Option.isSome_some]at J;clear D I gd))
  all_goals have HX:=hid (show R=some ([UInt8.ofNat x],1)by rw[HC.out,i7,gg.out,HS.out]);(have gi:(0:Int)<=(x:Int):=by omega);(have gh:(x:Int)<=255:=by have:=Ec HS.out;omega);have gu:=fun W g7 c7 h=>IK W g7 c7 (x:Int) gi gh h;clear HC gb J;go_wp2_with fail;go_ret2;rw[HX.out];exact⟨M.alloc ga _,rfl⟩
 | none=>
  have HS:=hid gk;have HP:Hid (R=pN c rr):=hid (by rw[HC.out,wh _ _ (by rw[gg.out];exact gk)]);have ge:=hid gy.out;(have gz:decide ((1:Int)<=(s.size:Int))=true:=by rw[jB];omega);clear gk HC;by_cases gm:bb=120
  ·have z:=hid (show R=(bS rr 2 16).map fun v=>([UInt8.ofNat v],3)by rw[HP.out,pN,gg.out,gm];rfl);(have c1:((bb:Int)==120)=true:=by rw[kI];omega);clear HP ge gm;go_wp2_with fail;go_region_law (first
    |(go_simp;(go_at_call 276);refine(lS _).mono ?_;rintro e w3⟨b,rfl,D,gd,I⟩;have M:=(gC w.heap.size w).drew.trans I;have ga:=M.size;have J:=oo b w3 D bb gl;rw[HS.out]at J;simp only[xh,qT]at J;clear D I gd))
   all_goals
    clear J;go_wp2_with fail;refine(nr _ 2 16 (by decide) (by decide) _).mono ?_;rw[gb.out];cases hd:bS rr 2 16 with
    |none=>have HX:Hid (R=none):=hid (by rw[z.out,hd];rfl);rintro e w4⟨y,rfl⟩;unfold bw;refine⟨rfl,?_⟩;rw[HX.out];exact⟨M.trans (y.mono ga),rfl⟩
    |some v=>have hv:=nu (m:=256) hd (by decide);rw[hd]at z;clear hd;rintro e w4⟨y,rfl⟩;have O:=M.trans (y.mono ga);have gj:=O.size;have HX:=hid (show R=some ([UInt8.ofNat v],3)from z.out);have q4:IntKind.u8.wrap (v:Int)=(v:Int):=IntWalk.u8_in _ (by omega);(have gi:(0:Int)<=(v:Int):=by omega);(have gh:(v:Int)<=255:=by omega);have gu:=fun W g7 c7 h=>IK W g7 c7 (v:Int) gi gh h;clear gb z hv;go_wp2_with fail;go_ret2;rw[HX.out];exact⟨O.alloc gj _,rfl⟩
  by_cases gn:bb=117
  ·have z:Hid (R=(bS rr 4 16).bind fun v=>if Utf8.valid (v:Int)=true then some ((Utf8.encode (v:Int)).data.toList,5)else none):=hid (by rw[HP.out,pN,gg.out,gn];rfl);(have c1:((bb:Int)==120)=false:=by rw[gD];omega);(have c2:((bb:Int)==117)=true:=by rw[kI];omega);(have c3:((bb:Int)==85)=false:=by rw[gD];omega);clear HP ge gn;go_wp2_with fail;go_region_law (first
    |(go_simp;(go_at_call 276);refine(lS _).mono ?_;rintro e w3⟨b,rfl,D,gd,I⟩;have M:=(gC w.heap.size w).drew.trans I;have ga:=M.size;have J:=oo b w3 D bb gl;rw[HS.out]at J;simp only[xh,qT]at J;clear D I gd))
   all_goals
    clear J;go_wp2_with fail;refine(nr _ 4 16 (by decide) (by decide) _).mono ?_;rw[gb.out];cases hd:bS rr 4 16 with
    |none=>have HX:Hid (R=none):=hid (by rw[z.out,hd];rfl);rintro e w4⟨y,rfl⟩;unfold bw;refine⟨rfl,?_⟩;rw[HX.out];exact⟨M.trans (y.mono ga),rfl⟩
    | some v=>
     have hv:=nu (m:=65536) hd (by decide);rw[hd]at z;clear hd;rintro e w4⟨y,rfl⟩;have O:=M.trans (y.mono ga);have gj:=O.size;by_cases gx:v<=1114111
     ·(have e0:decide ((v:Int)<=1114111)=true:=by rw[jB];omega);have q4:IntKind.i32.wrap (v:Int)=(v:Int):=xe _ (by omega);cases q:Utf8.valid (v:Int)with
      |true=>have HX:=hid (show R=some ((Utf8.encode (v:Int)).data.toList,5)by rw[z.out,qB,gL q]);clear gb z hv;go_wp2_with fail;refine(dJ (v:Int) _).mono ?_;rw[lz,q];rintro e w5⟨rfl,rfl⟩;go_wp2_with fail;refine(cv _).mono ?_;rintro e w6⟨rfl,rfl⟩;go_wp2_with fail;go_ret2;rw[HX.out];exact⟨O,by generalize Utf8.encode (v:Int)=en;cases en;rfl⟩
      |false=>have HX:Hid (R=none):=hid (by rw[z.out,qB,gE (by rw[q];decide)]);clear gb z hv;go_wp2_with fail;refine(dJ (v:Int) _).mono ?_;rw[lz,q];rintro e w5⟨rfl,rfl⟩;go_wp2_with fail;refine(bM _).mono ?_;rintro e w6⟨rfl,rfl⟩;unfold bw;refine⟨rfl,?_⟩;rw[HX.out];exact⟨O,rfl⟩
     ·(have e0:decide ((v:Int)<=1114111)=false:=by rw[gH];omega);(have q:Utf8.valid (v:Int)=false:=by unfold Utf8.valid;simp;omega);have HX:Hid (R=none):=hid (by rw[z.out,qB,gE (by rw[q];decide)]);clear gb z hv q;go_wp2_with fail;refine(bM _).mono ?_;rintro e w6⟨rfl,rfl⟩;unfold bw;refine⟨rfl,?_⟩;rw[HX.out];exact⟨O,rfl⟩
  by_cases gs:bb=85
  ·have z:Hid (R=(bS rr 8 16).bind fun v=>if Utf8.valid (v:Int)=true then some ((Utf8.encode (v:Int)).data.toList,9)else none):=hid (by rw[HP.out,pN,gg.out,gs];rfl);(have c1:((bb:Int)==120)=false:=by rw[gD];omega);(have c2:((bb:Int)==117)=false:=by rw[gD];omega);(have c3:((bb:Int)==85)=true:=by rw[kI];omega);clear HP ge gs;go_wp2_with fail;go_region_law (first
    |(go_simp;(go_at_call 276);refine(lS _).mono ?_;rintro e w3⟨b,rfl,D,gd,I⟩;have M:=(gC w.heap.size w).drew.trans I;have ga:=M.size;have J:=oo b w3 D bb gl;rw[HS.out]at J;simp only[xh,qT]at J;clear D I gd))
   all_goals
    clear J;go_wp2_with fail;refine(nr _ 8 16 (by decide) (by decide) _).mono ?_;rw[gb.out];cases hd:bS rr 8 16 with
    |none=>have HX:Hid (R=none):=hid (by rw[z.out,hd];rfl);rintro e w4⟨y,rfl⟩;unfold bw;refine⟨rfl,?_⟩;rw[HX.out];exact⟨M.trans (y.mono ga),rfl⟩
    | some v=>
     have hv:=nu (m:=4294967296) hd (by decide);rw[hd]at z;clear hd;rintro e w4⟨y,rfl⟩;have O:=M.trans (y.mono ga);have gj:=O.size;by_cases gx:v<=1114111
     ·(have e0:decide ((v:Int)<=1114111)=true:=by rw[jB];omega);have q4:IntKind.i32.wrap (v:Int)=(v:Int):=xe _ (by omega);cases q:Utf8.valid (v:Int)with
      |true=>have HX:=hid (show R=some ((Utf8.encode (v:Int)).data.toList,9)by rw[z.out,qB,gL q]);clear gb z hv;go_wp2_with fail;refine(dJ (v:Int) _).mono ?_;rw[lz,q];rintro e w5⟨rfl,rfl⟩;go_wp2_with fail;refine(cv _).mono ?_;rintro e w6⟨rfl,rfl⟩;go_wp2_with fail;go_ret2;rw[HX.out];exact⟨O,by generalize Utf8.encode (v:Int)=en;cases en;rfl⟩
      |false=>have HX:Hid (R=none):=hid (by rw[z.out,qB,gE (by rw[q];decide)]);clear gb z hv;go_wp2_with fail;refine(dJ (v:Int) _).mono ?_;rw[lz,q];rintro e w5⟨rfl,rfl⟩;go_wp2_with fail;refine(bM _).mono ?_;rintro e w6⟨rfl,rfl⟩;unfold bw;refine⟨rfl,?_⟩;rw[HX.out];exact⟨O,rfl⟩
     ·(have e0:decide ((v:Int)<=1114111)=false:=by rw[gH];omega);(have q:Utf8.valid (v:Int)=false:=by unfold Utf8.valid;simp;omega);have HX:Hid (R=none):=hid (by rw[z.out,qB,gE (by rw[q];decide)]);clear gb z hv q;go_wp2_with fail;refine(bM _).mono ?_;rintro e w6⟨rfl,rfl⟩;unfold bw;refine⟨rfl,?_⟩;rw[HX.out];exact⟨O,rfl⟩
  have z:Hid (R=(bS (c::rr) 3 8).bind fun v=>if v<=255 then some ([UInt8.ofNat v],3)else none):=hid (by rw[HP.out,pN,gg.out,gE gm,gE gn,gE gs]);(have c1:((bb:Int)==120)=false:=by rw[gD];omega);(have c2:((bb:Int)==117)=false:=by rw[gD];omega);(have c3:((bb:Int)==85)=false:=by rw[gD];omega);clear HP;go_wp2_with fail;go_region_law (first
   |(go_simp;(go_at_call 276);refine(lS _).mono ?_;rintro e w3⟨b,rfl,D,gd,I⟩;have M:=(gC w.heap.size w).drew.trans I;have ga:=M.size;have J:=oo b w3 D bb gl;rw[HS.out]at J;simp only[xh,qT]at J;clear D I gd))
  all_goals
   clear J;go_wp2_with fail;refine(nr _ 3 8 (by decide) (by decide) _).mono ?_;rw[ge.out];cases hd:bS (c::rr) 3 8 with
   |none=>have HX:Hid (R=none):=hid (by rw[z.out,hd];rfl);rintro e w4⟨y,rfl⟩;unfold bw;refine⟨rfl,?_⟩;rw[HX.out];exact⟨M.trans (y.mono ga),rfl⟩
   |some v=>
    have hv:=nu (m:=512) hd (by decide);rw[hd]at z;clear hd;rintro e w4⟨y,rfl⟩;have O:=M.trans (y.mono ga);have gj:=O.size;by_cases gp:v<=255
    ·(have e0:decide ((v:Int)<=255)=true:=by rw[jB];omega);have HX:=hid (show R=some ([UInt8.ofNat v],3)by rw[z.out,qB,gL gp]);have q4:IntKind.u8.wrap (v:Int)=(v:Int):=IntWalk.u8_in _ (by omega);(have gi:(0:Int)<=(v:Int):=by omega);(have gh:(v:Int)<=255:=by omega);have gu:=fun W g7 c7 h=>IK W g7 c7 (v:Int) gi gh h;clear gb z hv ge;go_wp2_with fail;refine(cv _).mono ?_;rintro e w5⟨rfl,rfl⟩;go_wp2_with fail;go_ret2;rw[HX.out];exact⟨O.alloc gj _,rfl⟩
    ·(have e0:decide ((v:Int)<=255)=false:=by rw[gH];omega);have HX:Hid (R=none):=hid (by rw[z.out,qB,gE gp]);clear gb z hv ge;go_wp2_with fail;refine(bM _).mono ?_;rintro e w5⟨rfl,rfl⟩;unfold bw;refine⟨rfl,?_⟩;rw[HX.out];exact⟨O,rfl⟩
end
end Go.Proofs.YtcoiialmdncpfaaGreatDoor
