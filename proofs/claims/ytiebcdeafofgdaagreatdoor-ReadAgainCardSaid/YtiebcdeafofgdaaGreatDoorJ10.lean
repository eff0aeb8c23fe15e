/-
  Parts of the proof: Lnum Lpart Lquot Lcatch. By an AI agent.
-/
import Derived.Test.YtiebcdeafofgdaaGreatDoorJ09
import Derived.Test.YtiebcdeafofgdaaGreatDoorJ08
import Derived.Deep.RegionLaw
import Derived.Maps.OwnOps
import Derived.BigQuiet
import Derived.Defers
import Derived.Recover
set_option maxRecDepth 100000
set_option maxHeartbeats 8000000
namespace Go.Proofs.YtiebcdeafofgdaaGreatDoor
section
open Go.RowKit Go.Lib Go.Proofs
attribute [local go_sem ↓] Go.wp_at_zero Go.wp_at_succ
theorem kL:type_of% @Option.bind_some:=@Option.bind_some
theorem qY:type_of% @List.length_reverse:=@List.length_reverse
theorem vg:type_of% @Nat.le_of_ble_eq_true:=@Nat.le_of_ble_eq_true
def cM(s:ByteArray):Nat×ByteArray:=
 if s.size<2\/aa s 0≠48 then(10,s)
 else if aa s 1=120\/aa s 1=88 then(16,s.extract 2 s.size)
 else if aa s 1=98\/aa s 1=66 then(2,s.extract 2 s.size)
 else if aa s 1=111\/aa s 1=79 then(8,s.extract 2 s.size)
 else(8,s.extract 1 s.size)
theorem Dl(l:List UInt8)(t:ByteArray)(h:t.data.toList=l):t=⟨l.toArray⟩:=by subst h;rfl
theorem O7(s:ByteArray):sF s.data.toList=((cM s).1,(cM s).2.data.toList):=by
 unfold cM aa;have D:s.size=s.data.toList.length:=rfl;cases I:s.data.toList with
 |nil=>(have h0:s.size=0:=by rw[D,I];rfl);rw[gE (Or.inl (show s.size<2 by omega))];simp[sF,I]
 | cons a r=>
  cases J:r with
  |nil=>(have h0:s.size=1:=by rw[D,I,J];rfl);rw[gE (Or.inl (show s.size<2 by omega))];simp[sF,I,J]
  | cons b q=>
   rw[I,J]at D;simp at D;simp only[sF,List.getD_cons_zero,List.getD_cons_succ];by_cases O:a.toNat=48
   ·(have N:¬ (s.size<2\/a.toNat≠48):=by omega);(have h:(s.extract 2 s.size).data.toList=q:=by rw[fw,I,J];rfl);(have e1:(s.extract 1 s.size).data.toList=b::q:=by rw[fw,I,J];rfl);simp only[gE O,gA N];by_cases M:b.toNat=120\/b.toNat=88
    ·simp only[gE M,h]
    ·by_cases U:b.toNat=98\/b.toNat=66
     ·simp only[gA M,gE U,h]
     ·by_cases h3:b.toNat=111\/b.toNat=79
      ·simp only[gA M,gA U,gE h3,h]
      ·simp only[gA M,gA U,gA h3,e1]
   ·have hy:s.size<2\/a.toNat≠48:=.inr O;simp only[gA O,gE hy,I,J]
theorem LI(s:ByteArray)(w:World)(hs:s.size<=1000):Calls Tryz.prog 109 #[.string s] w fun e w'=>e=.returned (.tuple #[.int .i64 ((cM s).1:Int),.string (cM s).2])/\Below w w w':=by
 by_cases O:s.size<2
 ·have I:=hid (show cM s=(10,s)by unfold cM;rw[gE (.inl O)]);(have e2:decide ((s.size:Int)<2)=true:=by rw[gS];omega);clear O;(go_enter Tryz.func109,Tryz.ntmps109);(go_wp2_with fail);go_ret2;exact⟨by rw[I.out];rfl,gG _ _⟩
 (have e2:decide ((s.size:Int)<2)=false:=by rw[gK];omega);have gb:∀W,(Instr.index 9 (.string s) (.int .i64 0)).run Tryz.prog W=.ok (.int .u8 (aa s 0:Int)) W:=fun W=>ef s 0 (by omega) W;have ga:∀W,(Instr.index 9 (.string s) (.int .i64 1)).run Tryz.prog W=.ok (.int .u8 (aa s 1:Int)) W:=fun W=>ef s 1 (by omega) W;(have p2:(2:Int)<=(s.size:Int):=by omega);(have p1:(1:Int)<=(s.size:Int):=by omega);have hB:cM s=if aa s 0≠48 then(10,s)else if aa s 1=120\/aa s 1=88 then(16,s.extract 2 s.size)
  else if aa s 1=98\/aa s 1=66 then(2,s.extract 2 s.size)else if aa s 1=111\/aa s 1=79 then(8,s.extract 2 s.size)else(8,s.extract 1 s.size):=by
  unfold cM
  by_cases N:aa s 0≠48
  ·rw[gE (.inr N),gE N]
  ·rw[gA (by omega),gA N]
 have I:=hid hB;clear hB;generalize aa s 0=a at *;generalize aa s 1=b at *;by_cases M:a=48
 rotate_left
 ·have D:=hid (show cM s=(10,s)by rw[I.out,gE M]);(have ea:((a:Int) != 48)=true:=by rw[kU];omega);clear M I;(go_enter Tryz.func109,Tryz.ntmps109);(go_wp2_with fail);go_ret2;exact⟨by rw[D.out];rfl,gG _ _⟩
 subst M;by_cases hb:b=120\/b=88\/b=98\/b=66\/b=111\/b=79
 ·rcases hb with rfl|rfl|rfl|rfl|rfl|rfl;all_goals have D:=I.out;simp at D;have D:=hid D;clear I;(go_enter Tryz.func109,Tryz.ntmps109);(go_wp2_with fail);go_quiet (fail);have J:=bC (gG w.heap.size w) nq;(go_wp2_with fail);go_ret2;exact⟨by rw[D.out];rfl,J⟩
 have D:=hid (show cM s=(8,s.extract 1 s.size)by rw[I.out,gA (by omega),gA (by omega),gA (by omega),gA (by omega)]);(have U:((b:Int)==120)=false:=by rw[gF];omega);(have ge:((b:Int)==88)=false:=by rw[gF];omega);(have gd:((b:Int)==98)=false:=by rw[gF];omega);(have gh:((b:Int)==66)=false:=by rw[gF];omega);(have h:((b:Int)==111)=false:=by rw[gF];omega);(have gg:((b:Int)==79)=false:=by rw[gF];omega);clear hb;clear I;(go_enter Tryz.func109,Tryz.ntmps109);(go_wp2_with fail);go_quiet (fail);have J:=bC (gG w.heap.size w) nq;(go_wp2_with fail);go_ret2;exact⟨by rw[D.out];rfl,J⟩
def uX(radix:Nat)(r:List UInt8)(v:List Nat)(many:Nat):Option Nat->Option (List Nat×Bool×Nat)
 |none=>none
 |some d=>if d<radix then fD radix r (d6 radix v d) false (many+1)else none
theorem ER(radix:Nat)(c:UInt8)(r:List UInt8)(v:List Nat)(line:Bool)(many:Nat):
  fD radix (c::r) v line many=if c.toNat=95/\line=false then fD radix r v true many else uX radix r v many (dZ c.toNat):=by
 rw[fD];split
 ·rfl
 ·cases dZ c.toNat<;>rfl
theorem R0(w7:World)(g7 c7:Nat)(h:w7.cell? ⟨g7,0,none⟩=some (.int .u8 48)):(convert 27 9 (.slice (some ⟨g7,0,none⟩) 1 c7)).run Tryz.prog w7=.ok (.string ⟨#[48]⟩) w7:=
 run_convert_bytes_back (P:=Tryz.prog) w7 27 9 5 ⟨g7,0,none⟩ c7 [48] Tryz.underlying27 Tryz.underlying5 Tryz.underlying9 (fun j hj=>by(obtain rfl:j=0:=by simpa using hj);exact h)
theorem AQ{B:Nat}{w w':World}{e:TypeId}{n:Nat}{v:Value}{xs:List Value}(h:w.ownsRow B e 1 v n xs)(D:∀g,v.ownBlock=some g->w'.heap[g]? = w.heap[g]?):w'.ownsRow B e 1 v n xs:=by
 refine⟨h.1,?_⟩;rcases h.2 with M|⟨g,cap,cur,e,J,I,r⟩
 ·exact .inl M
 ·exact .inr ⟨g,cap,cur,e,J,(D g (by rw[e];rfl)).trans I,r⟩
theorem O8(s:ByteArray):(cM s).1<=16/\2<=(cM s).1/\(cM s).2.size<=s.size:=by
 unfold cM;have D:=fx s 2;have I:=fx s 1;split
 ·exact⟨by omega,by omega,d5 _⟩
 ·split
  ·exact⟨by omega,by omega,by simp only;omega⟩
  ·split
   ·exact⟨by omega,by omega,by simp only;omega⟩
   ·split
    ·exact⟨by omega,by omega,by simp only;omega⟩
    ·exact⟨by omega,by omega,by simp only;omega⟩
theorem uz(c:Nat)(h:128<=c):dZ c=none:=by unfold dZ;rw[gA (by omega),gA (by omega),gA (by omega)]
def lJ(w:World)(r:Option ByteArray)(e:Ending)(w':World):Prop:=
 Below w w w'/\match r with
 |some t=>e=.returned (.tuple #[.string t,.int .i64 0])
 |none=>∃n:Int,n≠0/\e=.returned (.tuple #[.string ⟨#[]⟩,.int .i64 n])
def ob(radix:Nat)(h0:Nat)(R:Option (List Nat×Bool×Nat)):Option ByteArray:=
 match R with
 |none=>none
 |some (v,line,many)=>if line=true\/many=0\/(radix=10/\1<many/\h0=48)then none else some (nJ v)
theorem ES(t:ByteArray):(t.data.toList.headD 0).toNat=aa t 0:=by unfold aa;cases t.data.toList<;>rfl
theorem Ia(s:ByteArray):lA s=if 200<s.size then none else if(cM s).1=10/\((cM s).2=⟨#[]⟩\/aa (cM s).2 0=95)then none
  else ob (cM s).1 (aa (cM s).2 0) (fD (cM s).1 (cM s).2.data.toList [] false 0):=by
 unfold lA;rw[O7];simp only[ES];have M:((cM s).2.data.toList=[])=((cM s).2=⟨#[]⟩):=by
  rw[eq_iff_iff];constructor
  ·intro h;have:=Dl [] _ h;exact this
  ·intro h;rw[h]
 (have I:((cM s).1=10/\((cM s).2.data.toList=[]\/aa (cM s).2 0=95))↔((cM s).1=10/\((cM s).2=⟨#[]⟩\/aa (cM s).2 0=95)):=by rw[M]);by_cases D:200<s.size
 ·rw[gE D,gE D]
 ·rw[gA D,gA D];by_cases J:(cM s).1=10/\((cM s).2.data.toList=[]\/aa (cM s).2 0=95)
  ·rw[gE J,gE (I.1 J)]
  ·rw[gA J,gA (fun h=>J (I.2 h))];unfold ob;cases fD (cM s).1 (cM s).2.data.toList [] false 0<;>rfl
theorem Ib(s:ByteArray)(i:Nat):(Utf8.decode s i).1<2000000:=by
 have I:=eU s i;rw[mZ,GX];split
 ·simp only;omega
 ·split
  ·split<;>simp only<;>omega
  ·split
   ·split<;>simp only<;>omega
   ·split
    ·split
     ·rename_i D;have:=D.2;unfold Utf8.valid at this;simp at this;simp only;omega
     ·simp only;omega
    ·simp only;omega
theorem wR (s:ByteArray)(w:World)(hs:s.size<=65536):Calls Tryz.prog 79 #[.string s] w (lJ w (lA s)):=by
 rw[Ia];by_cases gs:200<s.size
 ·have HR:=hid (gE gs:(if 200<s.size then none else if(cM s).1=10/\((cM s).2=⟨#[]⟩\/aa (cM s).2 0=95)then none
   else ob (cM s).1 (aa (cM s).2 0) (fD (cM s).1 (cM s).2.data.toList [] false 0))=none)
  rw[HR.out];(have jz:(200:Int)<(s.size:Int):=by omega);clear HR gs;(go_enter Tryz.func79,Tryz.ntmps79);(go_wp2_with fail);go_ret2;exact⟨gG _ _,12,by decide,rfl⟩
 rw[gA gs];(have jz:¬ (200:Int)<(s.size:Int):=by omega);have gx:=hid (fun w=>LI s w (by omega));obtain⟨gr,j9,j8⟩:=O8 s;(have jw:(cM s).2.size<=200:=by omega);generalize cM s=bt at *;obtain⟨radix,t⟩:=bt;simp only at gr j9 j8 jw gx;simp only;obtain⟨O,hO⟩:∃O,O=(if radix=10/\(t=⟨#[]⟩\/aa t 0=95)then none else ob radix (aa t 0) (fD radix t.data.toList [] false 0)):=⟨_,rfl⟩
 rw[<-hO];have HO:=hid hO;clear hO;have hf:∀v line many,ob radix (aa t 0) (some (v,line,many))=if line=true\/many=0\/(radix=10/\1<many/\aa t 0=48)then none else some (nJ v):=fun _ _ _=>rfl;have gw:=hid hf;clear hf;have hw:0<t.size->∀W,(Instr.index 9 (.string t) (.int .i64 0)).run Tryz.prog W=.ok (.int .u8 (aa t 0:Int)) W:=fun h W=>ef t 0 h W;have gt:=hid hw;clear hw;have g5:=hid (show t.size=0->t=⟨#[]⟩from fun h=>Dl [] t (jR h));by_cases I:radix=10/\(t=⟨#[]⟩\/aa t 0=95)
 ·have jn:Hid (O=none):=hid (by rw[HO.out,gE I]);obtain⟨rfl,I⟩:=I;by_cases ge:t=⟨#[]⟩
  ·subst ge;clear I HO gw gt g5;(go_enter Tryz.func79,Tryz.ntmps79);(go_wp2_with fail);refine(gx.out _).mono ?_;rintro e w1⟨rfl,U⟩;(go_wp2_with fail);go_ret2;rw[jn.out];exact⟨U,4,by decide,rfl⟩
  ·have g2:=I.resolve_left ge;have gm:=gt.out (Nat.pos_of_ne_zero fun h=>ge (g5.out h));rw[g2]at gm;(have gj:t.toList.isEmpty=false:=by rw[aK];exact jD ge);(have g9:(t.toList==[])=false:=by rw[<-dz];exact jD ge);clear I HO gw gt g5 ge g2;(go_enter Tryz.func79,Tryz.ntmps79);(go_wp2_with fail);refine(gx.out _).mono ?_;rintro e w1⟨rfl,U⟩;(go_wp2_with fail);go_ret2;rw[jn.out];exact⟨U,4,by decide,rfl⟩
 have jm:Hid (ob radix (aa t 0) (fD radix t.data.toList [] false 0)=O):=hid (by rw[HO.out,gA I]);have gq:(radix==10)=false\/((radix==10)=true/\t≠⟨#[]⟩/\aa t 0≠95):=by
  by_cases h:radix=10
  ·exact .inr ⟨beq_iff_eq.2 h,fun h2=>I ⟨h,.inl h2⟩,fun h2=>I ⟨h,.inr h2⟩⟩
  ·exact .inl (beq_eq_false_iff_ne.2 h)
 have hu:=hid gq;clear I gq;rcases hu.out with hr|⟨hr,gj,g2⟩;(have er:((radix:Int)==10)=false:=by rw[gF];have:=beq_eq_false_iff_ne.1 hr;omega);clear hr
 rotate_left
 (have er:((radix:Int)==10)=true:=by rw[kK];have:=beq_iff_eq.1 hr;omega);(have h5:t.toList.isEmpty=false:=by rw[aK];exact jD gj);(have g9:(t.toList==[])=false:=by rw[<-dz];exact jD gj);have gm:=gt.out (Nat.pos_of_ne_zero fun h=>gj (g5.out h));(have jh:((aa t 0:Int)==95)=false:=by rw[gF];omega);clear hr gj g2
 rotate_left
 all_goals
  (go_enter Tryz.func79,Tryz.ntmps79);(go_wp2_with fail);refine(gx.out _).mono ?_;rintro e w1⟨rfl,U⟩;(go_wp2_with fail);have he:=qz w1 t 0;have jg:Below w w (w1.iter t 0):=U.trans (((gG _ w1).alloc (d5 _) _).mono U.size);have jd:=U.size;clear U;generalize w1.heap.size=b at *;generalize w1.iter t 0=w2 at *;(try clear h5 g9 jh gm);go_loopg [6,7,8,10,11,35,36] t.size (fun g u6 u7 u8 _ _ _ _ wr=>∃(j:Nat)(vl:List Nat)(line:Bool)(many:Nat),j<=t.size/\t.size-j<=g/\wr.heap[b]? = some (.stringIter t j)/\rF (b+1) wr u6 vl/\(∀x∈vl,x<=9)/\vl.length<=2*j/\u7=.bool line/\u8=.int .i64 (many:Int)/\many<=j/\Below w w wr/\ob radix (aa t 0) (fD radix (t.data.toList.drop j) vl line many)=O)
  case atStart=>exact⟨0,[],false,0,gP _,by omega,he,qS _ _ _ _,(fun x hx=>by cases hx),gP _,rfl,rfl,d5 _,jg,by rw[kW];exact jm.out⟩
  case round=>
   clear he jg jm gx;obtain⟨j,vl,line,many,hj,kp,hit,hO,h9,km,rfl,rfl,kn,hB,hq⟩:=hrel;have g4:=hid hit;have g3:=hid hO;have H9:=hid h9;have HQ:=hid hq;have kk:b<wr.heap.size:=by
    rcases jZ b wr.heap.size with h|h
    ·exact h
    ·rw[kI h]at hit;cases hit
   clear hit hO h9 hq;by_cases N:j<t.size
   ·have M:=fun ty=>qI (P:=Tryz.prog) wr b t j ty g4.out N;by_cases ha:aa t j<128
    ·obtain ⟨c,rr,gn,g0,gz⟩:=mT t j N;have hd:=l6 t j ha;rw[hd]at M;rw[gn]at HQ;have jl:=hid gz;have jp:=hid g0;have j1:=qL wr b t j (j+1) g4.out;have j2:Below w w (wr.iterAt b t (j+1)):=cW hB jd;have j3:rF (b+1) (wr.iterAt b t (j+1)) u6 vl:=Dj g3.out fun k hk _=>iterAt_other wr _ _ t _ (by omega);have jj:Hid (b<(wr.iterAt b t (j+1)).heap.size):=hid (by
      have h1:=qL wr b t j (j+1) g4.out;rcases jZ b (wr.iterAt b t (j+1)).heap.size with h|h
      ·exact h
      ·rw[kI h]at h1;cases h1)
     generalize wr.iterAt b t (j+1)=W1 at M j1 j2 j3 jj;have J1:=hid j1;have J3:=hid j3;clear hd gn g0 gz j1 j3;generalize hbb:aa t j=bb at *;clear hbb;by_cases h_:bb=95/\line=false
     ·obtain⟨rfl,rfl⟩:=h_;have J:Hid (ob radix (aa t 0) (fD radix rr vl true many)=O):=hid (by rw[<-HQ.out,fD,gE ⟨jp.out,rfl⟩]);(go_wp2_with fail);refine(iw 95 (by omega) _).mono ?_;rintro e w3⟨rfl,rfl⟩;(go_wp2_with fail);go_roundg (t.size-(j+1))
      case measure=>omega
      case rel=>exact⟨j+1,vl,true,many,by omega,d5 _,J1.out,J3.out,H9.out,by omega,rfl,rfl,by omega,j2,by rw[<-jl.out];exact J.out⟩
     ·have gi:Hid (ob radix (aa t 0) (uX radix rr vl many (dZ bb))=O):=hid (by rw[<-HQ.out,ER,jp.out,gA h_]);have e_:(((bb:Int)==95) && !line)=false:=by
       cases hl:line with
       |true=>simp
       |false=>rw[beq_eq_false_iff_ne.2 (by intro h;exact h_ ⟨by omega,hl⟩)];rfl
      have E_:=hid e_;clear h_ e_ HQ;cases D:dZ bb with
      | none=>
       have J:Hid (O=none):=hid (by rw[<-gi.out,D];rfl);(have gh:oa bb = -1:=by unfold oa;rw[D]);clear gi D;cases e1:((bb:Int)==95)<;>cases line;all_goals
        first
         |(exfalso;have:=E_.out;rw[e1]at this;cases this;done)
         |((go_wp2_with fail);refine(iw bb (by omega) _).mono ?_;rw[gh];rintro e w3⟨rfl,rfl⟩;(go_wp2_with fail);go_ret2;rw[J.out];exact⟨j2,4,by decide,rfl⟩)
      | some d=>
       (have gh:oa bb=(d:Int):=by unfold oa;rw[D]);have h8:d<=15:=by
        unfold dZ at D;split at D
        ·injection D with D;omega
        ·split at D
         ·injection D with D;omega
         ·split at D
          ·injection D with D;omega
          ·cases D
       by_cases h7:d<radix
       ·have J:Hid (ob radix (aa t 0) (fD radix rr (d6 radix vl d) false (many+1))=O):=hid (by rw[<-gi.out,D,uX,gE h7]);(have j7:decide ((radix:Int)<=(d:Int))=false:=by rw[gK];omega);(have j6:decide ((d:Int)<0)=false:=by rw[gK];omega);have qm:IntKind.i64.wrap ((many:Int)+1)=(many:Int)+1:=gO _ (by omega);clear gi D;cases e1:((bb:Int)==95)<;>cases line;all_goals
         first
          |(exfalso;have:=E_.out;rw[e1]at this;cases this;done)
          | ((go_wp2_with fail);refine(iw bb (by omega) _).mono ?_;rw[gh];rintro e w3⟨rfl,rfl⟩;(go_wp2_with fail);refine(G8 (b+1) _ vl radix d W1 J3.out (by have:=jj.out;omega) H9.out gr h8 (by omega)).mono ?_;rintro e w4⟨v4,rfl,jf,ho⟩;have kd:=hid jf;have J4:=hid ((ho.block b (qd _)).trans J1.out);have kh:=hid (j2.trans (ho.mono (by omega)));clear jf ho;(go_wp2_with fail);go_roundg (t.size-(j+1))
             case measure=>omega
             case rel=>exact⟨j+1,d6 radix vl d,false,many+1,by omega,d5 _,J4.out,kd.out,Dk radix gr vl d H9.out h8,(by have:=tV radix vl d;omega),rfl,by go_num,by omega,kh.out,by rw[<-jl.out];exact J.out⟩)
       ·have J:Hid (O=none):=hid (by rw[<-gi.out,D,uX,gA h7];rfl);(have j7:decide ((radix:Int)<=(d:Int))=true:=by rw[gS];omega);(have j6:decide ((d:Int)<0)=false:=by rw[gK];omega);clear gi D;cases e1:((bb:Int)==95)<;>cases line;all_goals
         first
          |(exfalso;have:=E_.out;rw[e1]at this;cases this;done)
          |((go_wp2_with fail);refine(iw bb (by omega) _).mono ?_;rw[gh];rintro e w3⟨rfl,rfl⟩;(go_wp2_with fail);go_ret2;rw[J.out];exact⟨j2,4,by decide,rfl⟩)
    ·obtain⟨c,rr,gn,g0,gz⟩:=mT t j N;have hh:=ln t j N (by omega);have hy:=Ib t j;have J:Hid (O=none):=hid (by rw[<-HQ.out,gn,fD,gA (by omega),uz _ (by omega)];rfl);have h6:=hh.1;clear hh ha gn g0 gz;generalize Utf8.decode t j=q at *;obtain⟨r,k⟩:=q;simp only at h6 M hy;have j2:Below w w (wr.iterAt b t (j+k)):=cW hB jd;generalize wr.iterAt b t (j+k)=W1 at M j2;(have jh:((r:Int)==95)=false:=by rw[gF];omega);(have gh:oa r = -1:=by unfold oa;rw[uz r h6]);(go_wp2_with fail);refine(iw r hy _).mono ?_;rw[gh];rintro e w3⟨rfl,rfl⟩;(go_wp2_with fail);go_ret2;rw[J.out];exact⟨j2,4,by decide,rfl⟩
   ·have j5:=fun ty=>qA (P:=Tryz.prog) wr b t j ty g4.out N;have ga:=hid (show(if line=true\/many=0\/(radix=10/\1<many/\aa t 0=48)then none else some (nJ vl))=O by rw[<-HQ.out,jU (by have:t.data.toList.length=t.size:=rfl;omega),fD];exact(gw.out _ _ _).symm);clear HQ;cases line with
    |true=>have J:Hid (O=none):=hid (by rw[<-ga.out,gE (.inl rfl)]);clear ga;(go_wp2_with fail);go_ret2;rw[J.out];exact⟨hB,4,by decide,rfl⟩
    | false=>
     by_cases yk:many=0
     ·have J:Hid (O=none):=hid (by rw[<-ga.out,gE (.inr (.inl yk))]);subst yk;clear ga;(go_wp2_with fail);go_ret2;rw[J.out];exact⟨hB,4,by decide,rfl⟩
     ·(have ks:((many:Int)==0)=false:=by rw[gF];omega);(have jx:0<t.size:=by omega);have gm:=gt.out jx;by_cases hz:radix=10/\1<many/\aa t 0=48
      ·have J:Hid (O=none):=hid (by rw[<-ga.out,gE (.inr (.inr hz))]);(have kc:((radix:Int)==10)=true:=by rw[kK];omega);(have kr:decide ((1:Int)<(many:Int))=true:=by rw[gS];omega);rw[hz.2.2]at gm;clear ga hz yk;first
        |(exfalso;rw[kc]at er;cases er;done)
        |((go_wp2_with fail);go_ret2;rw[J.out];exact⟨hB,4,by decide,rfl⟩)
      ·have J:=hid (show O=some (nJ vl)by rw[<-ga.out,gA (fun h=>by rcases h with h|h|h;(cases h);(exact yk h);(exact hz h))]);have HZ:=hid hz;clear ga hz yk;have jb:((((radix:Int)==10)&&decide ((1:Int)<(many:Int)))&&((aa t 0:Int)==48))=false:=by
        cases h1:((radix:Int)==10)with
        |false=>rfl
        |true=>
         cases h2:decide ((1:Int)<(many:Int))with
         |false=>rfl
         |true=>have h1:=beq_iff_eq.1 h1;have h2:=of_decide_eq_true h2;show((aa t 0:Int)==48)=false;rw[gF];intro h3;exact HZ.out ⟨by omega,by omega,by omega⟩
       have kg:=hid jb;clear jb;obtain⟨A6,c6,jv,kq⟩:=rm g3.out;subst jv;obtain⟨i0,hi,jt,js,jr⟩:=qH infoByte;(have jy:vl.length<=400:=by omega);have q1:IntKind.i64.wrap ((vl.length:Int)+1)=(vl.length:Int)+1:=gO _ (by omega);have q2:IntKind.i64.wrap ((vl.length:Int)-1)=(vl.length:Int)-1:=gO _ (by omega);generalize hb0:aa t 0=h0 at *;cases e1:((radix:Int)==10)<;>cases e2:decide ((1:Int)<(many:Int))<;>cases e3:((h0:Int)==48);all_goals
        first
         |(exfalso;have:=kg.out;rw[e1,e2,e3]at this;cases this;done)
         |(exfalso;rw[e1]at er;cases er;done)
         | (go_wp2_with (at_make;refine wpList_make_own _ rfl (.const (.int .i64 0)) (.tmp 81) 27 rfl wr.heap.size 5 i0 _ 1 Tryz.underlying27 hi jt js .i64 .i64 _ (vl.length+1) rfl rfl (by rfl) (by rw[jr];omega) (by unfold maxLen;omega) (d5 _) ?_;intro w5 hown5 gb);have jo:=hid (show EM wr.heap.size w5 (.slice (some ⟨wr,0,none⟩) 0 (vl.length+1)) []from hown5);have jk:Hid (rF (b+1) w5 (.slice A6 vl.length c6) vl):=hid (Dj g3.out fun k _ hk=>gb.block k hk (by simp));have g6:Below wr wr w5:=⟨gb.os,gb.tape,gb.output,gb.size,fun k hk=>gb.block k hk (by simp)⟩;have ku:=a8 hB g6;clear hown5 gb;(go_wp2_with fail);have kb:=g6.size;have ki:=H9.out;go_loopg [12,13] vl.length (fun gg u12 u13 wx=>∃k:Nat,k<=vl.length/\k<=gg/\u13=.int .i64 ((k:Int)-1)/\EM wr.heap.size wx u12 ((vl.drop k).reverse.map fun d=>UInt8.ofNat (48+d))/\rF (b+1) wx (.slice A6 vl.length c6) vl/\Below wr wr wx)
            case atStart=>exact⟨vl.length,d5 _,d5 _,rfl,by rw[List.drop_length];exact jo.out,jk.out,g6⟩
            case round=>
             rename World=>wx;clear jo jk g6 kb;obtain⟨k,hk,ko,rfl,hm,je,hn⟩:=hrel;have gu:=hid hm;have hp:=hid je;have kl:=hn.size;obtain⟨kj,ji,g8,jc⟩:=rm hm;rw[jV,qY,gR]at g8 jc;clear hm je;subst g8;cases k with
             |succ k1=>
              rw[show((k1+1:Nat):Int)-1=(k1:Int)by omega];(have hg:k1<vl.length:=by omega);obtain⟨g,c',hv,j4,j0⟩:=qN hp.out (by omega);injection hv with e1 e2 e3;subst e1 e3;clear e2;have gp:=qT hp.out k1 (by omega);rw[vh,gQ hg]at gp;have ju:=ki _ (jC hg);have kf:=hid (jX hg);simp only[m7]at gp;generalize vl[k1]=x at *;(have p0:(0:Int)<=(k1:Int):=by omega);(have p1:(k1:Int)<(vl.length:Int):=by omega);have q3:IntKind.i64.wrap (48+(x:Int))=48+(x:Int):=gO _ (by omega);have q4:IntKind.u8.wrap (48+(x:Int))=48+(x:Int):=IntWalk.u8_in _ (by omega);have q5:IntKind.i64.wrap ((k1:Int)-1)=(k1:Int)-1:=gO _ (by omega);have HU:=hid (show(48+(x:Int))=((UInt8.ofNat (48+x)).toNat:Int)by rw[UInt8.toNat_ofNat'];omega);have gv:=hid (show((vl.drop (k1+1)).reverse.map fun d=>UInt8.ofNat (48+d)).length=vl.length-(k1+1)by rw[jV,qY,gR]);have HE:=hid (show((vl.drop (k1+1)).reverse.map fun d=>UInt8.ofNat (48+d))++[UInt8.ofNat (48+x)]=(vl.drop k1).reverse.map fun d=>UInt8.ofNat (48+d)by rw[kf.out,List.reverse_cons,qa];rfl);clear ju;generalize hLL:((vl.drop (k1+1)).reverse.map fun d=>UInt8.ofNat (48+d))=LL at *;go_wp2_with (at_builtin;refine sP rfl (.tmp 90) (.tmp 97) rfl wr.heap.size _ _ LL (UInt8.ofNat (48+x)) _ (by rw[<-gv.out];rfl) _ rfl rfl HU.out gu.out (by omega) (by rw[gv.out];omega) ?_;intro g7 c7 w7 hO7 g1);have ka:rF (b+1) w7 (.slice (some ⟨g,0,none⟩) vl.length c6) vl:=AQ hp.out fun q hq=>g1.block q (qZ g3.out q hq).2;go_roundg k1
              case measure=>omega
              case rel=>exact⟨k1,by omega,d5 _,rfl,by rw[<-HE.out];exact hO7,ka,hn.trans g1⟩
             |zero=>
              rw[show((0:Nat):Int)-1 = -1 by omega];have gv:=hid (show((vl.drop 0).reverse.map fun d=>UInt8.ofNat (48+d)).length=vl.length by rw[jV,qY,gR];omega);have jq:=hid (a8 hB hn);by_cases gy:vl=[]
              ·subst gy;have ht:=hid (show O=some ⟨#[48]⟩from J.out);have gd:=gu.out;clear J gv;go_wp2_with (at_builtin;refine sP rfl (.tmp 102) (.tmp 103) rfl wr.heap.size _ _ [] 48 _ rfl _ rfl rfl rfl gd (by omega) (by simp) ?_;intro g7 c7 w7 hO7 g1;have ja:=R0 w7 g7 c7 (qT hO7 0 (by decide)));go_ret2;rw[ht.out];exact⟨jq.out.trans (g1.mono (by have:=hB.size;omega)),rfl⟩
              ·have ht:=hid (show O=some ⟨(vl.reverse.map fun d=>UInt8.ofNat (48+d)).toArray⟩by rw[J.out,nJ,gA gy]);rw[Nat.sub_zero]at gu |-;have h4:0<vl.length:=Nat.pos_of_ne_zero fun h=>gy (jR h);(have kt:((vl.length:Int)==0)=false:=by rw[gF];omega);have ke:=hid (show EM wr.heap.size wx (.slice kj vl.length ji) (vl.reverse.map fun d=>UInt8.ofNat (48+d))from gu.out);(have gl:(vl.reverse.map fun d=>UInt8.ofNat (48+d)).length=vl.length:=by rw[jV,qY]);have gd:=ke.out;unfold EM at gd;rw[gl]at gd;obtain⟨g7,c7,hv,j4,j0⟩:=qN gd h4;injection hv with e1 e2 e3;subst e1 e3;clear e2;have ja:=run_convert_bytes_back (P:=Tryz.prog) wx 27 9 5 ⟨g7,0,none⟩ ji (vl.reverse.map fun d=>UInt8.ofNat (48+d)) Tryz.underlying27 Tryz.underlying5 Tryz.underlying9 (fun j hj=>by rw[rU,kR,qT gd j (by omega),vh,gQ hj];rfl);rw[gl]at ja;generalize(⟨(vl.reverse.map fun d=>UInt8.ofNat (48+d)).toArray⟩:ByteArray)=SS at *;clear gl gd J gv gu gy;(go_wp2_with fail);go_ret2;rw[ht.out];exact⟨jq.out,rfl⟩)
theorem ET{B:Nat}{w wk wl:World}{b:Nat}(h:Below B w wk)(D:wk.grownBy wl (some b))(hb:B<=b)(hs:B<=wk.heap.size):Below B w wl:=
 h.trans ⟨D.os,D.tape,D.output,D.size,fun k hk=>D.block k (by omega) (fun e=>by injection e with e;omega)⟩
def D9:DataW Unit:=EQ (.map []) FZ
theorem ni(w:World):Calls Tryz.prog 194 #[] w fun e w'=>∃b,e=.returned (.map (some b))/\w'.ownsMap Tryz.prog 5 (plainElem Tryz.prog 5) b 9 D9/\w.heap.size<=b/\Below w w w':=by have I :=@run_makeMap Tryz.prog;have D:=World.ownsMap_made (H:=Unit) w Tryz.prog 5 (plainElem Tryz.prog 5);have M:Below w w (w.alloc (.map #[] 0)):=(gG _ _).alloc (d5 _) _;(go_enter Tryz.func194,Tryz.ntmps194);go_wp2_with (refine sS _ rfl (.tmp 1) _ _ rfl (by decide) (by decide) w.heap.size _ _ rfl (by assumption) (by decide) ?_;intro w1 hown1 hg1;have J:=ET (w:=w) (by assumption) hg1 (d5 _) (Below.size (by assumption));clear hg1);go_ret;exact⟨_,rfl,by assumption,d5 _,by assumption⟩
theorem RG(c:Nat):D9.atKey (.int .u8 (c:Int)) (.lit (.int .u8 0))=.lit (.int .u8 (((fj c).getD 0:Nat):Int))/\Maps.has D9 (.int .u8 (c:Int))=(fj c).isSome:=by
 by_cases h1:c=97
 ·subst h1;exact⟨rfl,rfl⟩
 by_cases h2:c=98
 ·subst h2;exact⟨rfl,rfl⟩
 by_cases U:c=102
 ·subst U;exact⟨rfl,rfl⟩
 by_cases O:c=110
 ·subst O;exact⟨rfl,rfl⟩
 by_cases N:c=114
 ·subst N;exact⟨rfl,rfl⟩
 by_cases M:c=116
 ·subst M;exact⟨rfl,rfl⟩
 by_cases J:c=118
 ·subst J;exact⟨rfl,rfl⟩
 by_cases I:c=92
 ·subst I;exact⟨rfl,rfl⟩
 by_cases h9:c=34
 ·subst h9;exact⟨rfl,rfl⟩
 (have hs:fj c=none:=by unfold fj;simp only[h1,h2,U,O,N,M,J,I,h9,jY]);rw[hs];have D:∀k:Int,(c:Int)≠k->(Lit.int .u8 (c:Int))≠.int .u8 k:=fun k h e=>h (by injection e);unfold D9 FZ;simp only[EQ];constructor
 ·(repeat rw[Maps.atKey_put_other (D _ (by omega))]);rfl
 ·(repeat rw[Maps.has_put_other (D _ (by omega))]);rfl
theorem pM(b:Nat)(w:World)(I:w.ownsMap Tryz.prog 5 (plainElem Tryz.prog 5) b 9 D9)(c:Nat)(hc:c<256):
  (Instr.lookup 156 (.map (some b)) (.int .u8 (c:Int)) true).run Tryz.prog w=.ok (.tuple #[.int .u8 (((fj c).getD 0:Nat):Int),.bool (fj c).isSome]) w:=by(have J:(Lit.int .u8 (c:Int)).wf=true:=by simp[Lit.wf,IntKind.min,IntKind.max,IntKind.signed,IntKind.bits];omega);have U:(zeroValue 5).run Tryz.prog w=.ok (.int .u8 0) w:=Tryz.zeroValue5 w;obtain⟨v,ps,D,O⟩:=I.look_ok (Maps.int_keyed Tryz.underlying5) Tryz.underlying156 U (plainElem_int (H:=Unit) Tryz.underlying5 (by decide)) (Maps.keyOf_int_mk Tryz.underlying5 J);rw[(RG c).1]at O;rw[(RG c).2]at D;generalize(fj c).getD 0=vv at *;generalize(fj c).isSome=sb at *;obtain⟨c',rfl,M,_⟩:=plainElem_int_inv Tryz.underlying5 O;have N:=jH Prod.fst M;simp only at N;simp only[DataW.lit.injEq,Lit.int.injEq,true_and]at N;subst N;exact D
theorem wS(radix:Nat):∀(l:List UInt8)(v x:Nat),fM radix l v=some x->x<(v+1)*radix^l.length
 |[],v,x,h=>by rw[fM]at h;injection h with h;simp;omega
 | c::r,v,x,h=>by
  rw[fM]at h;cases hd:dZ c.toNat with
  |none=>rw[hd]at h;cases h
  |some d=>
   rw[hd]at h;simp only at h;split at h
   ·rename_i D;have:=wS radix r _ _ h;refine kH this ?_;rw[gM,Nat.pow_succ,Nat.mul_comm (radix^r.length) radix,<-Nat.mul_assoc];refine Nat.mul_le_mul_right _ ?_;rw[Nat.add_mul,vB];omega
   ·cases h
theorem o5{l:List UInt8}{n radix x m:Nat}(h:cB l n radix=some x)(D:radix^n<=m):x<m:=by
 unfold cB at h;split at h
 ·have:=wS radix _ _ _ h;rw[qD,Nat.min_eq_left (by assumption)]at this;omega
 ·cases h
theorem EU{c x:Nat}(h:fj c=some x):x<=255:=by unfold fj at h;(repeat' split at h);all_goals first|(injection h with h;omega)|cases h
theorem LJ(w7:World)(g7 c7:Nat)(b:Int)(D:0<=b)(hb:b<=255)(h:w7.cell? ⟨g7,0,none⟩=some (.int .u8 b)):(convert 27 9 (.slice (some ⟨g7,0,none⟩) 1 c7)).run Tryz.prog w7=.ok (.string ⟨#[UInt8.ofNat b.toNat]⟩) w7:=by refine run_convert_bytes_back (P:=Tryz.prog) w7 27 9 5 ⟨g7,0,none⟩ c7 [UInt8.ofNat b.toNat] Tryz.underlying27 Tryz.underlying5 Tryz.underlying9 (fun j hj=>?_);(have:j=0:=by simp at hj;omega);subst this;rw[show w7.cell? (Addr.add ⟨g7,0,none⟩ 0)=some (.int .u8 b)from h];simp;rw[Int.emod_eq_of_lt (by omega) (by omega)];omega
theorem mU(r:Int):Lib.validRune r=Utf8.valid r:=by unfold Lib.validRune Utf8.valid;rw[qb];simp;omega
def rY(c:UInt8)(r:List UInt8):Option (List UInt8×Nat):=
 if c.toNat=120 then(cB r 2 16).map fun v=>([UInt8.ofNat v],3)
 else if c.toNat=117 then(cB r 4 16).bind fun v=>if Utf8.valid (v:Int)=true then some ((Utf8.encode (v:Int)).data.toList,5)else none
 else if c.toNat=85 then(cB r 8 16).bind fun v=>if Utf8.valid (v:Int)=true then some ((Utf8.encode (v:Int)).data.toList,9)else none
 else(cB (c::r) 3 8).bind fun v=>if v<=255 then some ([UInt8.ofNat v],3)else none
theorem wT(c:UInt8)(r:List UInt8)(h:fj c.toNat=none):lT (c::r)=rY c r:=by rw[lT,h];rfl
def LK(w:World)(r:Option (List UInt8×Nat))(e:Ending)(w':World):Prop:=
 Below w w w'/\match r with
 |some p=>e=.returned (.tuple #[.string ⟨p.1.toArray⟩,.int .i64 (p.2:Int)])
 |none=>e=bV
theorem LM(s:ByteArray)(hs:s.size<=65536)(w:World):Calls Tryz.prog 145 #[.string s] w (LK w (lT s.data.toList)):=by
 obtain⟨R,hR⟩:∃R,R=lT s.data.toList:=⟨_,rfl⟩;rw[<-hR];have HR:=hid hR;clear hR;have gt:s.data.toList.length=s.size:=rfl;by_cases hn:s.size=0
 ·(have gw:s=⟨#[]⟩:=by have hl:s.data.toList=[]:=jR (by omega);cases s;simp at hl;subst hl;rfl);subst gw;have HN:Hid (R=none):=hid HR.out;clear HR gt hn;(go_enter Tryz.func145,Tryz.ntmps145);(go_wp2_with fail);refine(cH _).mono ?_;rintro e w2⟨rfl,rfl⟩;unfold bV;refine⟨rfl,?_⟩;rw[HN.out];exact⟨gG _ _,rfl⟩
 (have g1:s.toList.isEmpty=false:=by rw[aK];exact jD (by rintro rfl;exact hn rfl));obtain⟨c,rr,gr,gv,gq⟩:=mT s 0 (by omega);have g0:∀W,(Instr.index 9 (.string s) (.int .i64 0)).run Tryz.prog W=.ok (.int .u8 (aa s 0:Int)) W:=fun W=>ef s 0 (by omega) W;have gl:=eU s 0;have gy:Hid (s.data.toList=c::rr):=hid (by rw[<-gr,kW]);have HC:=hid (show R=lT (c::rr)by rw[HR.out,<-gr,kW]);have gg:=hid gv;have gb:=hid (show(s.extract 1 s.size).data.toList=rr by rw[vr,<-gq,jK (by rw[gq,gR];omega)]);clear HR gr gv gq gt;generalize aa s 0=bb at *;(go_enter Tryz.func145,Tryz.ntmps145);(go_wp2_with fail);refine(dx _).mono ?_;rintro e w2⟨rfl,rfl⟩;cases gk:fj bb with
 | some x=>
  have HS:=hid gk;clear gk;(go_wp2_with fail);go_region_law (first
   |(go_simp;(go_at_call 194);refine(ni _).mono ?_;rintro e w3⟨b,rfl,D,gd,I⟩;have M:=(gG w.heap.size w).drew.trans I;have ga:=M.size;have J:=pM b w3 D bb gl;rw[HS.out]at J;simp only[vo,Option.isSome_some]at J;clear D I gd))
  all_goals have HX:=hid (show R=some ([UInt8.ofNat x],1)by rw[HC.out,lT,gg.out,HS.out]);(have gi:(0:Int)<=(x:Int):=by omega);(have gh:(x:Int)<=255:=by have:=EU HS.out;omega);have gu:=fun W g7 c7 h=>LJ W g7 c7 (x:Int) gi gh h;clear HC gb J;(go_wp2_with fail);go_ret2;rw[HX.out];exact⟨M.alloc ga _,rfl⟩
 | none=>
  have HS:=hid gk;have HP:Hid (R=rY c rr):=hid (by rw[HC.out,wT _ _ (by rw[gg.out];exact gk)]);have ge:=hid gy.out;(have gz:decide ((1:Int)<=(s.size:Int))=true:=by rw[gS];omega);clear gk HC;by_cases gm:bb=120
  ·have HD:=hid (show R=(cB rr 2 16).map fun v=>([UInt8.ofNat v],3)by rw[HP.out,rY,gg.out,gm];rfl);(have c1:((bb:Int)==120)=true:=by rw[kK];omega);clear HP ge gm;(go_wp2_with fail);go_region_law (first
    |(go_simp;(go_at_call 194);refine(ni _).mono ?_;rintro e w3⟨b,rfl,D,gd,I⟩;have M:=(gG w.heap.size w).drew.trans I;have ga:=M.size;have J:=pM b w3 D bb gl;rw[HS.out]at J;simp only[vp,qo]at J;clear D I gd))
   all_goals
    clear J;(go_wp2_with fail);refine(o0 _ 2 16 (by decide) (by decide) _).mono ?_;rw[gb.out];cases hd:cB rr 2 16 with
    |none=>have HX:Hid (R=none):=hid (by rw[HD.out,hd];rfl);rintro e w4⟨U,rfl⟩;unfold bV;refine⟨rfl,?_⟩;rw[HX.out];exact⟨M.trans (U.mono ga),rfl⟩
    |some v=>have hv:=o5 (m:=256) hd (by decide);rw[hd]at HD;clear hd;rintro e w4⟨U,rfl⟩;have N:=M.trans (U.mono ga);have gj:=N.size;have HX:=hid (show R=some ([UInt8.ofNat v],3)from HD.out);have q4:IntKind.u8.wrap (v:Int)=(v:Int):=IntWalk.u8_in _ (by omega);(have gi:(0:Int)<=(v:Int):=by omega);(have gh:(v:Int)<=255:=by omega);have gu:=fun W g7 c7 h=>LJ W g7 c7 (v:Int) gi gh h;clear gb HD hv;(go_wp2_with fail);go_ret2;rw[HX.out];exact⟨N.alloc gj _,rfl⟩
  by_cases gn:bb=117
  ·have HD:Hid (R=(cB rr 4 16).bind fun v=>if Utf8.valid (v:Int)=true then some ((Utf8.encode (v:Int)).data.toList,5)else none):=hid (by rw[HP.out,rY,gg.out,gn];rfl);(have c1:((bb:Int)==120)=false:=by rw[gF];omega);(have c2:((bb:Int)==117)=true:=by rw[kK];omega);(have c3:((bb:Int)==85)=false:=by rw[gF];omega);clear HP ge gn;(go_wp2_with fail);go_region_law (first
    |(go_simp;(go_at_call 194);refine(ni _).mono ?_;rintro e w3⟨b,rfl,D,gd,I⟩;have M:=(gG w.heap.size w).drew.trans I;have ga:=M.size;have J:=pM b w3 D bb gl;rw[HS.out]at J;simp only[vp,qo]at J;clear D I gd))
   all_goals
    clear J;(go_wp2_with fail);refine(o0 _ 4 16 (by decide) (by decide) _).mono ?_;rw[gb.out];cases hd:cB rr 4 16 with
    |none=>have HX:Hid (R=none):=hid (by rw[HD.out,hd];rfl);rintro e w4⟨U,rfl⟩;unfold bV;refine⟨rfl,?_⟩;rw[HX.out];exact⟨M.trans (U.mono ga),rfl⟩
    | some v=>
     have hv:=o5 (m:=65536) hd (by decide);rw[hd]at HD;clear hd;rintro e w4⟨U,rfl⟩;have N:=M.trans (U.mono ga);have gj:=N.size;by_cases gx:v<=1114111
     ·(have e0:decide ((v:Int)<=1114111)=true:=by rw[gS];omega);have q4:IntKind.i32.wrap (v:Int)=(v:Int):=qt _ (by omega);cases O:Utf8.valid (v:Int)with
      |true=>have HX:=hid (show R=some ((Utf8.encode (v:Int)).data.toList,5)by rw[HD.out,kL,gE O]);clear gb HD hv;(go_wp2_with fail);refine(ml (v:Int) _).mono ?_;rw[mU,O];rintro e w5⟨rfl,rfl⟩;(go_wp2_with fail);refine(dx _).mono ?_;rintro e w6⟨rfl,rfl⟩;(go_wp2_with fail);go_ret2;rw[HX.out];exact⟨N,by generalize Utf8.encode (v:Int)=en;cases en;rfl⟩
      |false=>have HX:Hid (R=none):=hid (by rw[HD.out,kL,gA (by rw[O];decide)]);clear gb HD hv;(go_wp2_with fail);refine(ml (v:Int) _).mono ?_;rw[mU,O];rintro e w5⟨rfl,rfl⟩;(go_wp2_with fail);refine(cH _).mono ?_;rintro e w6⟨rfl,rfl⟩;unfold bV;refine⟨rfl,?_⟩;rw[HX.out];exact⟨N,rfl⟩
     ·(have e0:decide ((v:Int)<=1114111)=false:=by rw[gK];omega);(have O:Utf8.valid (v:Int)=false:=by unfold Utf8.valid;simp;omega);have HX:Hid (R=none):=hid (by rw[HD.out,kL,gA (by rw[O];decide)]);clear gb HD hv O;(go_wp2_with fail);refine(cH _).mono ?_;rintro e w6⟨rfl,rfl⟩;unfold bV;refine⟨rfl,?_⟩;rw[HX.out];exact⟨N,rfl⟩
  by_cases gs:bb=85
  ·have HD:Hid (R=(cB rr 8 16).bind fun v=>if Utf8.valid (v:Int)=true then some ((Utf8.encode (v:Int)).data.toList,9)else none):=hid (by rw[HP.out,rY,gg.out,gs];rfl);(have c1:((bb:Int)==120)=false:=by rw[gF];omega);(have c2:((bb:Int)==117)=false:=by rw[gF];omega);(have c3:((bb:Int)==85)=true:=by rw[kK];omega);clear HP ge gs;(go_wp2_with fail);go_region_law (first
    |(go_simp;(go_at_call 194);refine(ni _).mono ?_;rintro e w3⟨b,rfl,D,gd,I⟩;have M:=(gG w.heap.size w).drew.trans I;have ga:=M.size;have J:=pM b w3 D bb gl;rw[HS.out]at J;simp only[vp,qo]at J;clear D I gd))
   all_goals
    clear J;(go_wp2_with fail);refine(o0 _ 8 16 (by decide) (by decide) _).mono ?_;rw[gb.out];cases hd:cB rr 8 16 with
    |none=>have HX:Hid (R=none):=hid (by rw[HD.out,hd];rfl);rintro e w4⟨U,rfl⟩;unfold bV;refine⟨rfl,?_⟩;rw[HX.out];exact⟨M.trans (U.mono ga),rfl⟩
    | some v=>
     have hv:=o5 (m:=4294967296) hd (by decide);rw[hd]at HD;clear hd;rintro e w4⟨U,rfl⟩;have N:=M.trans (U.mono ga);have gj:=N.size;by_cases gx:v<=1114111
     ·(have e0:decide ((v:Int)<=1114111)=true:=by rw[gS];omega);have q4:IntKind.i32.wrap (v:Int)=(v:Int):=qt _ (by omega);cases O:Utf8.valid (v:Int)with
      |true=>have HX:=hid (show R=some ((Utf8.encode (v:Int)).data.toList,9)by rw[HD.out,kL,gE O]);clear gb HD hv;(go_wp2_with fail);refine(ml (v:Int) _).mono ?_;rw[mU,O];rintro e w5⟨rfl,rfl⟩;(go_wp2_with fail);refine(dx _).mono ?_;rintro e w6⟨rfl,rfl⟩;(go_wp2_with fail);go_ret2;rw[HX.out];exact⟨N,by generalize Utf8.encode (v:Int)=en;cases en;rfl⟩
      |false=>have HX:Hid (R=none):=hid (by rw[HD.out,kL,gA (by rw[O];decide)]);clear gb HD hv;(go_wp2_with fail);refine(ml (v:Int) _).mono ?_;rw[mU,O];rintro e w5⟨rfl,rfl⟩;(go_wp2_with fail);refine(cH _).mono ?_;rintro e w6⟨rfl,rfl⟩;unfold bV;refine⟨rfl,?_⟩;rw[HX.out];exact⟨N,rfl⟩
     ·(have e0:decide ((v:Int)<=1114111)=false:=by rw[gK];omega);(have O:Utf8.valid (v:Int)=false:=by unfold Utf8.valid;simp;omega);have HX:Hid (R=none):=hid (by rw[HD.out,kL,gA (by rw[O];decide)]);clear gb HD hv O;(go_wp2_with fail);refine(cH _).mono ?_;rintro e w6⟨rfl,rfl⟩;unfold bV;refine⟨rfl,?_⟩;rw[HX.out];exact⟨N,rfl⟩
  have HD:Hid (R=(cB (c::rr) 3 8).bind fun v=>if v<=255 then some ([UInt8.ofNat v],3)else none):=hid (by rw[HP.out,rY,gg.out,gA gm,gA gn,gA gs]);(have c1:((bb:Int)==120)=false:=by rw[gF];omega);(have c2:((bb:Int)==117)=false:=by rw[gF];omega);(have c3:((bb:Int)==85)=false:=by rw[gF];omega);clear HP;(go_wp2_with fail);go_region_law (first
   |(go_simp;(go_at_call 194);refine(ni _).mono ?_;rintro e w3⟨b,rfl,D,gd,I⟩;have M:=(gG w.heap.size w).drew.trans I;have ga:=M.size;have J:=pM b w3 D bb gl;rw[HS.out]at J;simp only[vp,qo]at J;clear D I gd))
  all_goals
   clear J;(go_wp2_with fail);refine(o0 _ 3 8 (by decide) (by decide) _).mono ?_;rw[ge.out];cases hd:cB (c::rr) 3 8 with
   |none=>have HX:Hid (R=none):=hid (by rw[HD.out,hd];rfl);rintro e w4⟨U,rfl⟩;unfold bV;refine⟨rfl,?_⟩;rw[HX.out];exact⟨M.trans (U.mono ga),rfl⟩
   |some v=>
    have hv:=o5 (m:=512) hd (by decide);rw[hd]at HD;clear hd;rintro e w4⟨U,rfl⟩;have N:=M.trans (U.mono ga);have gj:=N.size;by_cases gp:v<=255
    ·(have e0:decide ((v:Int)<=255)=true:=by rw[gS];omega);have HX:=hid (show R=some ([UInt8.ofNat v],3)by rw[HD.out,kL,gE gp]);have q4:IntKind.u8.wrap (v:Int)=(v:Int):=IntWalk.u8_in _ (by omega);(have gi:(0:Int)<=(v:Int):=by omega);(have gh:(v:Int)<=255:=by omega);have gu:=fun W g7 c7 h=>LJ W g7 c7 (v:Int) gi gh h;clear gb HD hv ge;(go_wp2_with fail);refine(dx _).mono ?_;rintro e w5⟨rfl,rfl⟩;(go_wp2_with fail);go_ret2;rw[HX.out];exact⟨N.alloc gj _,rfl⟩
    ·(have e0:decide ((v:Int)<=255)=false:=by rw[gK];omega);have HX:Hid (R=none):=hid (by rw[HD.out,kL,gA gp]);clear gb HD hv ge;(go_wp2_with fail);refine(cH _).mono ?_;rintro e w5⟨rfl,rfl⟩;unfold bV;refine⟨rfl,?_⟩;rw[HX.out];exact⟨N,rfl⟩
theorem EV(v:Int):(Utf8.encode v).data.toList.length<=4:=by unfold Utf8.encode;dsimp only;(repeat' split);all_goals exact vg rfl
theorem nP{l:List UInt8}{n radix x:Nat}(h:cB l n radix=some x):n<=l.length:=by
 unfold cB at h;split at h
 ·assumption
 ·cases h
theorem Ic{l:List UInt8}{p:List UInt8×Nat}(h:lT l=some p):p.1.length<=4/\1<=p.2/\p.2<=l.length:=by
 (have key:∀(a:List UInt8)(n m:Nat),some (a,n)=some p->a.length<=4->1<=n->n<=m->p.1.length<=4/\1<=p.2/\p.2<=m:=by intro a n m h N M J;rw[<-Option.some.inj h];exact⟨N,M,J⟩);have O:=EV;cases l with
 |nil=>cases h
 | cons c r=>
  rw[gM];cases hs:fj c.toNat with
  |some v=>rw[lT,hs]at h;exact key _ _ _ h (vg rfl) (d5 _) (Nat.succ_le_succ (gP _))
  | none=>
   rw[wT c r hs,rY]at h;clear hs;generalize c.toNat=n at h;by_cases N:n=120
   ·rw[gE N]at h;obtain⟨v,hd,h⟩:=Option.map_eq_some_iff.mp h;have I:=nP hd;exact key _ _ _ (jH some h) (vg rfl) (by omega) (by omega)
   ·rw[gA N]at h;by_cases M:n=117
    ·rw[gE M]at h;obtain⟨v,hd,h⟩:=Option.bind_eq_some_iff.mp h;have I:=nP hd;by_cases D:Utf8.valid (v:Int)=true
     ·rw[gE D]at h;exact key _ _ _ h (O _) (by omega) (by omega)
     ·rw[gA D]at h;cases h
    ·rw[gA M]at h;by_cases J:n=85
     ·rw[gE J]at h;obtain⟨v,hd,h⟩:=Option.bind_eq_some_iff.mp h;have I:=nP hd;by_cases D:Utf8.valid (v:Int)=true
      ·rw[gE D]at h;exact key _ _ _ h (O _) (by omega) (by omega)
      ·rw[gA D]at h;cases h
     ·rw[gA J]at h;obtain⟨v,hd,h⟩:=Option.bind_eq_some_iff.mp h;have I:=nP hd;rw[gM]at I;by_cases D:v<=255
      ·rw[gE D]at h;exact key _ _ _ h (vg rfl) (by omega) (by omega)
      ·rw[gA D]at h;cases h
theorem lK:∀(g g':Nat)(l:List UInt8),l.length<g->l.length<g'->cI g l=cI g' l
 |0,_,_,h,_=>absurd h (Nat.not_lt_zero _)
 |_+1,0,_,_,h=>absurd h (Nat.not_lt_zero _)
 |g+1,g'+1,[],_,_=>by rw[cI,cI]
 | g+1,g'+1,c::r,h,h'=>by
  rw[cI,cI];simp only[gM]at h h';split
  ·cases D:lT r with
   |none=>rfl
   |some p=>simp only[kL];rw[lK g g' (r.drop p.2) (by rw[gR];omega) (by rw[gR];omega)]
  ·split
   ·rfl
   ·rw[lK g g' r (by omega) (by omega)]
theorem OX.below{B b:Nat}{bs:List Value}{w w':World}(h:OX B b bs w)(hb:Below w w w'):OX B b bs w':=by(have key:∀p,Lib.BuilderAt 129 5 B b p bs w->Lib.BuilderAt 129 5 B b p bs w':=by rintro p⟨M,v,J,D,I⟩;exact⟨M,v,by rw[hb.block b (Lib.BuilderAt.lt ⟨M,v,J,D,I⟩)];exact J,AQ D (fun g hg=>hb.block g (qZ D g hg).2),I⟩);exact h.elim (fun h=>.inl (key _ h)) (fun h=>.inr (key _ h))
def O9(w:World)(r:Option (List UInt8))(e:Ending)(w':World):Prop:=
 Below w w w'/\match r with
 |some l=>e=.returned (.string ⟨l.toArray⟩)
 |none=>e=bV
def eK(bs:List UInt8)(l:List UInt8):Option (List UInt8):=(cI (l.length+1) l).map fun x=>bs++x
theorem Dm(bs:List UInt8):eK bs []=some bs:=by show(some []).map _=_;simp
theorem BX(bs:List UInt8)(c:UInt8)(r:List UInt8)(hc:c.toNat=92):eK bs (c::r)=(lT r).bind fun p=>eK (bs++p.1) (r.drop p.2):=by
 unfold eK;rw[cI,gE hc];cases D:lT r with
 |none=>rfl
 |some p=>simp only[kL,Option.map_map];rw[lK ((c::r).length) ((r.drop p.2).length+1) (r.drop p.2) (by simp only[gM,gR];omega) (by omega)];congr 1;funext x;simp
theorem Dn(bs:List UInt8)(c:UInt8)(r:List UInt8)(hc:¬ c.toNat=92)(h:c.toNat=34\/c.toNat=10):eK bs (c::r)=none:=by unfold eK;rw[cI,gA hc,gE h];rfl
theorem BY(bs:List UInt8)(c:UInt8)(r:List UInt8)(hc:¬ c.toNat=92)(h:¬ (c.toNat=34\/c.toNat=10)):eK bs (c::r)=eK (bs++[c]) r:=by unfold eK;rw[cI,gA hc,gA h,Option.map_map];rw[lK ((c::r).length) (r.length+1) r (by simp only[gM];omega) (by omega)];congr 1;funext x;simp
theorem rZ(s:ByteArray)(k:Nat):(s.extract k s.size).data.toList=s.data.toList.drop k:=by rw[vr];have:s.data.toList.length=s.size:=rfl;rw[jK (by rw[gR];omega)]
theorem AF(s:ByteArray)(hs:s.size<=65536)(w:World):Calls Tryz.prog 114 #[.string s] w (O9 w (eK [] s.data.toList)):=by
 obtain⟨R,hR⟩:∃R,R=eK [] s.data.toList:=⟨_,rfl⟩;rw[<-hR];have HR:=hid hR.symm;clear hR;(go_enter Tryz.func114,Tryz.ntmps114);(go_wp2_with fail);have J:=Lib.fresh_isBuilder 129 5 w;have gj:Below w w (w.alloc (.cells #[.pointer none,.slice none 0 0] 129)):=(gG _ w).alloc (d5 _) _;generalize w.alloc (.cells #[.pointer none,.slice none 0 0] 129)=w1 at *;go_loopg [0,4,5,6,7,8] s.size (fun g u0 _ _ _ _ _ wr=>∃(t:ByteArray)(bs:List UInt8),u0=.string t/\t.size<=g/\t.size<=s.size/\bs.length+4*t.size<=4*s.size/\OX w.heap.size w.heap.size (Lib.byteCells bs) wr/\Below w w wr/\eK bs t.data.toList=R)
 case atStart=>exact⟨s,[],rfl,d5 _,d5 _,by simp,J,gj,HR.out⟩
 case round=>
  clear J gj HR;obtain⟨t,bs,rfl,hg,gv,gy,J,hB,hq⟩:=hrel;have HQ:=hid hq;have U:=hB.size;clear hq;by_cases ga:t=⟨#[]⟩
  ·subst ga;have h:Hid (R=some bs):=hid (HQ.out.symm.trans (Dm bs));clear HQ;(go_wp2_with fail);refine(C7 _ _ bs _ J U).mono ?_;rintro e w4⟨rfl,D⟩;(go_wp2_with fail);go_ret;rw[h.out];exact⟨hB.trans D,rfl⟩
  ·(have gx:t.toList.isEmpty=false:=by rw[aK];exact jD ga);(have hn:0<t.size:=by refine Nat.pos_of_ne_zero fun h0=>ga ?_;have hl:t.data.toList=[]:=jR (by have:t.data.toList.length=t.size:=rfl;omega);cases t;simp at hl;subst hl;rfl);obtain⟨c,rr,ge,gg,gm⟩:=mT t 0 hn;have gu:∀W,(Instr.index 9 (.string t) (.int .i64 0)).run Tryz.prog W=.ok (.int .u8 (aa t 0:Int)) W:=fun W=>ef t 0 hn W;have gz:=eU t 0;have I:Hid (t.data.toList=c::rr):=hid (by rw[<-ge,kW]);have gr:=hid (show(t.extract 1 t.size).data.toList=rr by rw[rZ,I.out];rfl);have N:=hid gg;have gq:Hid (t.size=rr.length+1):=hid (by have h1:t.data.toList.length=t.size:=rfl;rw[I.out,gM]at h1;omega);(have p1:(1:Int)<=(t.size:Int):=by omega);(have gh:(t.extract 1 t.size).size<=65536:=by rw[jT];omega);(have gp:(t.extract 1 t.size).size=t.size-1:=by rw[jT];omega);clear ge gg gm;generalize aa t 0=bb at *;by_cases M:bb=92
   ·(have c1:((bb:Int)==92)=true:=by rw[kK];omega);have HD:=hid (show(lT rr).bind (fun p=>eK (bs++p.1) (rr.drop p.2))=R by rw[<-HQ.out,I.out,BX _ _ _ (by rw[N.out];exact M)]);have gs:=hid gh;clear HQ M gh gp;(go_wp2_with fail);refine(LM _ gs.out _).mono ?_;rw[gr.out];cases hp:lT rr with
    |none=>have h:Hid (R=none):=hid (by rw[<-HD.out,hp];rfl);rintro e w4⟨D,rfl⟩;unfold bV;refine⟨rfl,?_⟩;rw[h.out];exact⟨hB.trans (D.mono U),rfl⟩
    |some p=>
     have hl:=Ic hp;have gt:Hid (eK (bs++p.1) (rr.drop p.2)=R):=hid (by rw[<-HD.out,hp];rfl);clear HD;rintro e w4⟨D,rfl⟩;have gn:=J.below D;have gi:=hB.trans (D.mono U);have gl:=gi.size;obtain⟨ps,n⟩:=p;simp only at hl;(have gw:n+1<=t.size:=by have:=gq.out;omega);have q5:IntKind.i64.wrap ((n:Int)+1)=(n:Int)+1:=gO _ (by omega);(have p2:(0:Int)<=(n:Int)+1:=by omega);(have p3:(n:Int)+1<=(t.size:Int):=by omega);(have g0:((n:Int)+1).toNat=n+1:=by omega);have HP:=hid hp;clear hp D;(go_wp2_with fail);refine(uN _ _ _ ⟨ps.toArray⟩ _ gn (by show(Lib.byteCells bs).length+ps.toArray.size<=_;simp[Lib.byteCells];omega) gl).mono ?_;rintro e w5⟨⟨v5,rfl⟩,gb,gd⟩;(go_wp2_with fail);go_roundg (t.size-(n+1))
     case measure=>omega
     case rel=>exact⟨t.extract (n+1) t.size,bs++ps,rfl,by rw[jT];omega,by rw[jT];omega,by rw[jT,gJ];omega,by(have:Lib.byteCells (bs++ps)=Lib.byteCells bs++Lib.strCells ⟨ps.toArray⟩:=by simp[Lib.byteCells,Lib.strCells]);rw[this];exact gb,gi.trans gd,by rw[rZ,I.out];exact gt.out⟩
   ·(have c1:((bb:Int)==92)=false:=by rw[gF];omega);by_cases O:bb=34\/bb=10
    ·have h:Hid (R=none):=hid (by rw[<-HQ.out,I.out,Dn _ _ _ (by rw[N.out];exact M) (by rw[N.out];exact O)]);clear HQ M;by_cases yk:bb=34
     ·(have c2:((bb:Int) != 34)=false:=by rw[bne_eq_false_iff_eq];omega);clear yk O;(go_wp2_with fail);refine(cH _).mono ?_;rintro e w6⟨rfl,rfl⟩;unfold bV;refine⟨rfl,?_⟩;rw[h.out];exact⟨hB,rfl⟩
     ·(have c2:((bb:Int) != 34)=true:=by rw[kU];omega);(have c3:((bb:Int) != 10)=false:=by rw[bne_eq_false_iff_eq];omega);clear yk O;(go_wp2_with fail);refine(cH _).mono ?_;rintro e w6⟨rfl,rfl⟩;unfold bV;refine⟨rfl,?_⟩;rw[h.out];exact⟨hB,rfl⟩
    ·have h:Hid (eK (bs++[c]) rr=R):=hid (by rw[<-HQ.out,I.out,BY _ _ _ (by rw[N.out];exact M) (by rw[N.out];exact O)]);(have c2:((bb:Int) != 34)=true:=by rw[kU];omega);(have c3:((bb:Int) != 10)=true:=by rw[kU];omega);clear HQ M O;(go_wp2_with fail);refine(dx _).mono ?_;rintro e w6⟨rfl,rfl⟩;(go_wp2_with fail);refine(AD _ _ _ (bb:Int) _ J (by simp[Lib.byteCells];omega) U).mono ?_;rintro e w5⟨rfl,gb,gd⟩;(go_wp2_with fail);go_roundg (t.size-1)
     case measure=>omega
     case rel=>exact⟨t.extract 1 t.size,bs++[c],rfl,by rw[jT];omega,by rw[jT];omega,by rw[jT,gJ,List.length_singleton];omega,by(have:Lib.byteCells (bs++[c])=Lib.byteCells bs++[.int .u8 (bb:Int)]:=by simp[Lib.byteCells,N.out]);rw[this];exact gb,hB.trans gd,by rw[rZ,I.out];exact h.out⟩
theorem R3(v:Value)(w:World):(Instr.typeAssert (.iface 112 v) 20 112 true).run Tryz.prog w=.ok (.tuple #[v,.bool true]) w:=by kernel_rfl
attribute [local go_sem] R3
theorem rn(p q:Addr)(w:World):
  CallsD Tryz.prog 112 #[.pointer (some p),.pointer (some q)] .returning w fun e u' w'=>e=.returned (.tuple #[])/\u'=.returning/\w'=w:=by
 refine vy Tryz.func112 rfl fun c₀ cs D=>?_;apply vD;apply qO;simp[wpOpsS,go_sem,recoverD,D,Tryz.ntmps112,Exit.thenS];apply vD;apply qO;simp[wpOpsS,go_sem,Exit.thenS];refine wpS_cond (t:=false) (by simp[Act.eval,Array.replicate]) ?_;simp only[gT,jY];refine wpS_of_wp (wp_skip ?_);cases c₀
 simp_all[bodyPostS,results,Tryz.results112]
theorem nj(B P Q:Nat)(vP vQ:Value)(w:World)(O:au w P 9 #[vP])(hQ:au w Q 29 #[vQ])(h:B<=P)(U:B<=Q)(J:P≠Q):
  CallsD Tryz.prog 112 #[P,Q] (.panicking [{ v:=.iface 112 (.agg #[]),recovered:=false }]) w
   fun e u' w'=>e=.returned (.tuple #[])/\u'=.panicking [{ v:=.iface 112 (.agg #[]),recovered:=true }] /\
    au w' P 9 #[.string ⟨#[]⟩]/\au w' Q 29 #[.int .i64 4]/\Below B w w':=by refine vy Tryz.func112 rfl fun c₀ cs hu=>?_;apply vD;apply qO;simp[wpOpsS,go_sem,recoverD,hu,Tryz.ntmps112,Exit.thenS];apply vD;apply qO;simp[wpOpsS,go_sem,Exit.thenS];refine wpS_cond (t:=true) (by simp[Act.eval,Array.replicate]) ?_;simp only[kJ];refine wpS_of_wp ?_;change Code.wp _ _ _ { tmps:=#[.pointer (some ⟨P,0,none⟩),.pointer (some ⟨Q,0,none⟩),.iface 112 (.agg #[]),undef,undef,.iface 112 (.agg #[]),.iface 112 (.agg #[]),.bool true,undef,undef,undef,undef,undef,undef,undef,undef],defers:=[] } _;have I:=O.alloc (.cells #[] 112);have D:=hQ.alloc (.cells #[] 112);have ga:Below B w (w.alloc (.cells #[] 112)):=(gG _ _).alloc (by have:=O.lt;omega) _;have gd:=O.lt;have gb:=hQ.lt;(go_upto_region 5 with fail);generalize w.alloc (.cells #[] 112)=w1 at *;have x0:=bg I;have x1:=bg D;have f0:=I.frozen 0;have f1:=D.frozen 0;(go_wp2_with fail);all_goals have N:au ((w1.setCell ⟨P,0,none⟩ (.string ⟨#[]⟩)).setCell ⟨Q,0,none⟩ (.int .i64 4)) P 9 #[.string ⟨#[]⟩]:=(show au (w1.setCell ⟨P,0,none⟩ (.string ⟨#[]⟩)) P 9 #[.string ⟨#[]⟩]by simpa using I.set_ 0 (.string ⟨#[]⟩)).far (p:=⟨Q,0,none⟩) J (.int .i64 4);(have M:au ((w1.setCell ⟨P,0,none⟩ (.string ⟨#[]⟩)).setCell ⟨Q,0,none⟩ (.int .i64 4)) Q 29 #[.int .i64 4]:=by simpa using(D.far (p:=⟨P,0,none⟩) J.symm (.string ⟨#[]⟩)).set_ 0 (.int .i64 4));refine⟨rfl,_,rfl,.tuple #[],?_,rfl,rfl,N,M,((ga.setCell (p:=⟨P,0,none⟩) h (.string ⟨#[]⟩)).setCell (p:=⟨Q,0,none⟩) U (.int .i64 4))⟩;simp[results,Tryz.results112,go_sem]
end
end Go.Proofs.YtiebcdeafofgdaaGreatDoor
