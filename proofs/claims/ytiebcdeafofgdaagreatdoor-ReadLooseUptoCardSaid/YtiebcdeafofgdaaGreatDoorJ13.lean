/-
  Parts of the proof: Uplain Uexpr1 Uexpr2 Uexpr3. By an AI agent.
-/
import Derived.Test.YtiebcdeafofgdaaGreatDoorJ12
import Derived.Test.YtiebcdeafofgdaaGreatDoorJ10
open Go.Proofs.Tryz
set_option maxRecDepth 100000
set_option maxHeartbeats 8000000
namespace Go.Proofs.YtiebcdeafofgdaaGreatDoor
section
open Go.RowKit Go.Lib Go.Proofs
attribute [local go_sem ↓] Go.wp_at_zero Go.wp_at_succ
theorem Is(s:ByteArray):dt s=true↔(∀j,j<s.size->av (cK s j:Int)=true)/\0<s.size/\s.size<=200/\(s.size<=1\/cK s 0≠48):=by
 unfold dt;rw[gB,tu];(have D:s.data.toList.length=s.size:=by simp);constructor
 ·rintro⟨U,I⟩;refine⟨fun j hj=>U j (by omega),?_⟩;rw[gI,gB,gB,gK,gK,gK,gK]at I;rcases I with I|⟨I,O,h4⟩
  ·subst I;exact⟨by decide,by decide,.inl (by decide)⟩
  ·have M:0<s.size:=by
    rcases kR s.size with h|h
    ·exact absurd (by apply qU;exact Array.eq_empty_of_size_eq_zero h) I
    ·exact h
   refine⟨M,O,.inr fun h=>h4 ?_⟩;(have e:s.data.toList.head? = some (s.data.toList.getD 0 0):=by rw[List.head?_eq_getElem?,gR,gN (by omega)];rfl);rw[e];congr 1;exact UInt8.toNat_inj.1 h
 ·rintro⟨U,I,O,h4⟩;refine⟨fun j hj=>U j (by omega),?_⟩;rw[gI,gB,gB,gK,gK,gK,gK];(have e:s.data.toList.head? = some (s.data.toList.getD 0 0):=by rw[List.head?_eq_getElem?,gR,gN (by omega)];rfl);by_cases h0:cK s 0=48
  ·(have h5:s.size=1:=by omega);left;apply qU;apply Array.toList_inj.1;rcases N:s.data.toList with _|⟨a,_|⟨b,l⟩⟩
   ·rw[N]at D;simp at D;omega
   ·(have:a.toNat=48:=by have J:=h0;unfold cK at J;rw[N]at J;simpa using J);have:a=48:=UInt8.toNat_inj.1 this;rw[this]
   ·rw[N]at D;simp at D;omega
  ·right;refine⟨fun hs=>?_,O,?_⟩
   ·subst hs;simp[ByteArray.size]at I
   ·rw[e];intro h;injection h with h;exact h0 (by unfold cK;rw[h];rfl)
theorem EI(s:ByteArray)(w:World):Calls prog 50 #[s] w fun e w'=>e=.returned (.bool (dt s))/\w=w':=by
 have HP:=hid (Is s);have gb:¬ ((∀j,j<s.size->av (cK s j:Int)=true)/\0<s.size/\s.size<=200/\(s.size<=1\/cK s 0≠48))->dt s=false:=by
  intro h;cases hp:dt s with
  |false=>rfl
  |true=>exact absurd (HP.out.1 hp) h
 have M:=hid gb;clear gb;by_cases h1:s.size=0
 ·(have hz:((s.size:Int)==0)=true:=by rw[kF];omega);have I:=hid (M.out (by rintro⟨_,h,_⟩;omega));clear h1;(go_enter func50,ntmps50);go_wp2_with fail;go_ret;exact⟨by rw[I.out];rfl,rfl⟩
 (have hz:((s.size:Int)==0)=false:=by rw[gC];omega);by_cases h2:s.size<=200
 rotate_left
 ·(have gg:decide ((200:Int)<(s.size:Int))=true:=by rw[gK];omega);have I:=hid (M.out (by rintro⟨_,_,h,_⟩;omega));clear h1 h2;(go_enter func50,ntmps50);go_wp2_with fail;go_ret;exact⟨by rw[I.out];rfl,rfl⟩
 (have gg:decide ((200:Int)<(s.size:Int))=false:=by rw[gJ];omega);(have N:0<s.size:=by omega);have i0:=fun W=>nG s 0 N W;simp only[Int.natCast_zero]at i0;by_cases h3:s.size<=1\/cK s 0≠48
 rotate_left
 ·(have g1:decide ((1:Int)<(s.size:Int))=true:=by rw[gK];omega);(have g2:cK s 0=48:=by omega);have I:=hid (M.out (by rintro⟨_,_,_,h⟩;exact h3 h));rw[g2]at i0;clear h1 h2 h3 g2;(go_enter func50,ntmps50);go_wp2_with fail;go_ret;exact⟨by rw[I.out];rfl,rfl⟩
 have HH:=hid h3;have ga:decide ((1:Int)<(s.size:Int))=false\/(decide ((1:Int)<(s.size:Int))=true/\((cK s 0:Int)==48)=false):=by
  by_cases g:s.size<=1
  ·left;rw[gJ];omega
  ·right;exact⟨by rw[gK];omega,by rw[gC];omega⟩
 clear h1 h3;rcases ga with g1|⟨g1,g2⟩;all_goals
  (go_enter func50,ntmps50);go_wp2_with fail;go_loopg [3] s.size (fun k u3 wr=>∃i:Nat,i<=s.size/\s.size-i<=k/\u3=.int .i64 (i:Int)/\w=wr/\∀j,j<i->av (cK s j:Int)=true)
  case atStart=>exact⟨0,gP _,by omega,rfl,rfl,fun j hj=>by omega⟩
  case round=>
   obtain⟨i,hi,hk,rfl,rfl,O⟩:=hrel;have HA:=hid O;clear O i0;by_cases ge:i<s.size
   ·(have gd:(i:Int)<(s.size:Int):=by omega);have hb:=fun W=>nG s i ge W;have J:Hid (av (cK s i:Int)=true->∀j,j<i+1->av (cK s j:Int)=true):=hid (by
     intro h j hj;by_cases e:j=i
     ·subst e;exact h
     ·exact HA.out j (by omega))
    have D:Hid (av (cK s i:Int)=false->dt s=false):=hid (by intro h;refine M.out ?_;rintro⟨h',_⟩;rw[h' i ge]at h;cases h);generalize cK s i=c at *;unfold av at J D;cases q1:decide ((c:Int)<48)with
    |true=>have I:=hid (D.out (by(have:decide (48<=(c:Int))=false:=by simp at q1 |-;omega);rw[this];rfl));clear J D;go_wp2_with fail;go_ret;exact⟨by rw[I.out];rfl,rfl⟩
    | false=>
     (have U:decide (48<=(c:Int))=true:=by simp at q1 |-;omega);cases q2:decide ((57:Int)<(c:Int))with
     |true=>have I:=hid (D.out (by(have:decide ((c:Int)<=57)=false:=by simp at q2 |-;omega);rw[this,jU]));clear J D U;go_wp2_with fail;go_ret;exact⟨by rw[I.out];rfl,rfl⟩
     |false=>
      have I:=hid (J.out (by(have:decide ((c:Int)<=57)=true:=by simp at q2 |-;omega);rw[this,U];rfl));clear J D U;go_wp2_with fail;go_roundg (s.size-(i+1))
      case measure=>omega
      case rel=>exact⟨i+1,by omega,gA _,by go_num,rfl,I.out⟩
   ·(have gd:¬ (i:Int)<(s.size:Int):=by omega);have I:Hid (dt s=true):=hid (by exact HP.out.2 ⟨fun j hj=>HA.out j (by omega),N,h2,HH.out⟩);go_wp2_with fail;go_ret;exact⟨by rw[I.out];rfl,rfl⟩
structure lN(d:Nat):Prop where
 typ:Bj d 25 (aa d).typ
 expr:Bj d 26 (aa d).expr
 stmt:Bj d 27 (aa d).stmt
 block:Bj d 47 (aa d).block
theorem tj(k:Int)(D:k≠37)(so:ByteArray->Bool)(l:List Nd){t:ByteArray}{p:Int}:cA k [] (au so (.mk k t l p))=(decide (l.length=0)&&so t):=by
 rw[show au so (.mk k t l p)=if so t=true then .mk k ⟨#[]⟩ l p else .mk 37 ⟨#[]⟩ [] 0 from rfl];by_cases hs:so t=true
 ·rw[gF hs];unfold cA;rcases l with _|⟨x,l⟩<;>simp[hs,aY]
 ·rw[d5 hs];rw[qW]at hs;unfold cA;rw[show decide ((Nd.mk 37 ⟨#[]⟩ [] 0).kind=k)=false from gM (fun h=>D (Eq.symm h))];simp[hs]
theorem mR(k:Int)(f:Nd->Bool)(so:ByteArray->Bool)(l:List Nd){t:ByteArray}{p:Int}:cA k [f] (au so (.mk k t l p))=(ov f l&&so t):=by rw[ti];simp
theorem NP(d:Nat)(C:lN d)(nt:ByteArray)(nl:List Nd)(np:Int)(A:Option Addr)(cp:Nat)(w:World)(N:aF w (.agg #[.int .i64 16,nt,.slice A nl.length cp,np]) (.mk 16 nt nl np))(hd:dK (d+1) (.mk 16 nt nl np)):
  Calls prog 26 #[.agg #[.int .i64 16,nt,.slice A nl.length cp,np]] w fun e w'=>e=.returned (.bool (aA (aa d) (.mk 16 nt nl np)))/\Below w w w':=by
 have h:=hid N;have HD:=hid hd;have D:=hd.1.1;have HT:=hid C.typ;have HE:=hid C.expr;have hB:=(aj w #[.int .i64 16,nt,.slice A nl.length cp,np]).1;have U:=(aj w #[.int .i64 16,nt,.slice A nl.length cp,np]).2;clear N hd C;generalize aa d=F at *;simp only[Nd.kids_mk]at D;have O:=hid (show aA F (.mk 16 nt nl np)=(decide (nl.length=0)&&dt nt)from(by simp[aA]:aA F (.mk 16 nt nl np)=cA 16 [] (au dt (.mk 16 nt nl np))).trans (tj 16 (by decide) _ _));by_cases I:nl.length=0
 rotate_left
 ·(have J:((nl.length:Int)==0)=false:=by rw[gC];omega);have M:Hid (aA F (.mk 16 nt nl np)=false):=hid (by rw[O.out,gM I,jG]);clear I;generalize nl.length=m at *;(go_enter func26,ntmps26);go_wp2_with fail;go_ret;exact⟨by rw[M.out];rfl,hB⟩
 (have J:((nl.length:Int)==0)=true:=by rw[kF];omega);have M:Hid (aA F (.mk 16 nt nl np)=dt nt):=hid (by rw[O.out,jO I,kK]);clear I;generalize nl.length=m at *;(go_enter func26,ntmps26);go_wp2_with fail;refine(EI _ _).mono ?_;rintro e w1⟨rfl,rfl⟩;go_wp2_with fail;go_ret;exact⟨by rw[M.out];rfl,hB⟩
theorem NQ(d:Nat)(C:lN d)(nt:ByteArray)(nl:List Nd)(np:Int)(A:Option Addr)(cp:Nat)(w:World)(N:aF w (.agg #[.int .i64 17,nt,.slice A nl.length cp,np]) (.mk 17 nt nl np))(hd:dK (d+1) (.mk 17 nt nl np)):
  Calls prog 26 #[.agg #[.int .i64 17,nt,.slice A nl.length cp,np]] w fun e w'=>e=.returned (.bool (aA (aa d) (.mk 17 nt nl np)))/\Below w w w':=by
 have h:=hid N;have HD:=hid hd;have D:=hd.1.1;have HT:=hid C.typ;have HE:=hid C.expr;have hB:=(aj w #[.int .i64 17,nt,.slice A nl.length cp,np]).1;have U:=(aj w #[.int .i64 17,nt,.slice A nl.length cp,np]).2;clear N hd C;generalize aa d=F at *;simp only[Nd.kids_mk]at D;have O:=hid (show aA F (.mk 17 nt nl np)=(decide (nl.length=0)&&dX nt)from(by simp[aA]:aA F (.mk 17 nt nl np)=cA 17 [] (au dX (.mk 17 nt nl np))).trans (tj 17 (by decide) _ _));by_cases I:nl.length=0
 rotate_left
 ·(have J:((nl.length:Int)==0)=false:=by rw[gC];omega);have M:Hid (aA F (.mk 17 nt nl np)=false):=hid (by rw[O.out,gM I,jG]);clear I;generalize nl.length=m at *;(go_enter func26,ntmps26);go_wp2_with fail;go_ret;exact⟨by rw[M.out];rfl,hB⟩
 (have J:((nl.length:Int)==0)=true:=by rw[kF];omega);have M:Hid (aA F (.mk 17 nt nl np)=dX nt):=hid (by rw[O.out,jO I,kK]);clear I;generalize nl.length=m at *;(have hd:dX nt=decide ((nt.size:Int)<=1000):=by unfold dX;rw[kU];omega);cases q:decide ((nt.size:Int)<=1000);all_goals rw[q]at hd;(go_enter func26,ntmps26);go_wp2_with fail;go_ret;exact⟨by rw[M.out,hd];rfl,hB⟩
theorem NR(d:Nat)(C:lN d)(nt:ByteArray)(nl:List Nd)(np:Int)(A:Option Addr)(cp:Nat)(w:World)(O:aF w (.agg #[.int .i64 18,nt,.slice A nl.length cp,np]) (.mk 18 nt nl np))(hd:dK (d+1) (.mk 18 nt nl np)):
  Calls prog 26 #[.agg #[.int .i64 18,nt,.slice A nl.length cp,np]] w fun e w'=>e=.returned (.bool (aA (aa d) (.mk 18 nt nl np)))/\Below w w w':=by
 have HV:=hid O;have HD:=hid hd;have D:=hd.1.1;have HT:=hid C.typ;have HE:=hid C.expr;have hB:=(aj w #[.int .i64 18,nt,.slice A nl.length cp,np]).1;have h:=(aj w #[.int .i64 18,nt,.slice A nl.length cp,np]).2;clear O hd C;generalize aa d=F at *;simp only[Nd.kids_mk]at D;have U:=hid (show aA F (.mk 18 nt nl np)=(decide (nl.length=0)&&aE nt)from(by simp[aA]:aA F (.mk 18 nt nl np)=cA 18 [] (au aE (.mk 18 nt nl np))).trans (tj 18 (by decide) _ _));by_cases I:nl.length=0
 rotate_left
 ·(have J:((nl.length:Int)==0)=false:=by rw[gC];omega);have N:Hid (aA F (.mk 18 nt nl np)=false):=hid (by rw[U.out,gM I,jG]);clear I;generalize nl.length=m at *;(go_enter func26,ntmps26);go_wp2_with fail;go_ret;exact⟨by rw[N.out];rfl,hB⟩
 (have J:((nl.length:Int)==0)=true:=by rw[kF];omega);have N:Hid (aA F (.mk 18 nt nl np)=aE nt):=hid (by rw[U.out,jO I,kK]);clear I;generalize nl.length=m at *;(go_enter func26,ntmps26);go_wp2_with fail;refine(dS _ _).mono ?_;rintro e w1⟨rfl,M⟩;go_wp2_with fail;go_ret;exact⟨by rw[N.out];rfl,aD hB M⟩
theorem NS(d:Nat)(C:lN d)(nt:ByteArray)(nl:List Nd)(np:Int)(A:Option Addr)(cp:Nat)(w:World)(hv:aF w (.agg #[.int .i64 19,nt,.slice A nl.length cp,np]) (.mk 19 nt nl np))(hd:dK (d+1) (.mk 19 nt nl np)):
  Calls prog 26 #[.agg #[.int .i64 19,nt,.slice A nl.length cp,np]] w fun e w'=>e=.returned (.bool (aA (aa d) (.mk 19 nt nl np)))/\Below w w w':=by
 have HV:=hid hv;have HD:=hid hd;have D:=hd.1.1;have HT:=hid C.typ;have HE:=hid C.expr;have hB:=(aj w #[.int .i64 19,nt,.slice A nl.length cp,np]).1;have I:=(aj w #[.int .i64 19,nt,.slice A nl.length cp,np]).2;clear hv hd C;generalize aa d=F at *;simp only[Nd.kids_mk]at D;have U:=hid (show aA F (.mk 19 nt nl np)=(ov F.expr nl&&dW nt)from(by simp[aA]:aA F (.mk 19 nt nl np)=cA 19 [F.expr] (au dW (.mk 19 nt nl np))).trans (mR _ _ _ _));by_cases O:nl.length=1
 rotate_left
 ·(have gd:((nl.length:Int)==1)=false:=by rw[gC];omega);have M:Hid (aA F (.mk 19 nt nl np)=false):=hid (by rw[U.out,ow _ O,jG]);clear O;generalize nl.length=m at *;(go_enter func26,ntmps26);go_wp2_with fail;go_ret;exact⟨by rw[M.out];rfl,hB⟩
 obtain⟨x,rfl⟩:=rC O;have ge:=hid (eS F.expr x);have N:aF w (.agg #[.int .i64 19,nt,.slice A 1 cp,np]) (.mk 19 nt [x] np):=HV.out;have hB:Below w w (w.alloc (.cells #[.int .i64 19,nt,.slice A 1 cp,np] 24)):=hB;have I:an (w.alloc (.cells #[.int .i64 19,nt,.slice A 1 cp,np] 24)) w.heap.size 24 #[.int .i64 19,nt,.slice A 1 cp,np]:=I;obtain⟨bx,ox,A1,c1,rfl,hx⟩:=cE N 0 (by simp);simp only[Nd.kids_mk,gT,jK,jD]at hx;have J:=hid hx;have gb:=hid (fun w'(h:C4 w' bx ox x A1 c1)=>HE.out _ x w' h.2.2.2.2 (HD.out.kid (k:=x) (by simp)));clear hx N HV O;cases q:dW nt with
 |false=>(have e1:(nt.toList==[45])=false:=by unfold dW at q;rw[<-ck nt [45]];exact(Bool.or_eq_false_iff.1 q).1);(have e2:(nt.toList==[33])=false:=by unfold dW at q;rw[<-ck nt [33]];exact(Bool.or_eq_false_iff.1 q).2);have M:Hid (aA F (.mk 19 nt [x] np)=false):=hid (by rw[U.out,q,jU]);clear q;(go_enter func26,ntmps26);go_wp2_with fail;go_ret;exact⟨by rw[M.out];rfl,hB⟩
 |true=>have M:Hid (aA F (.mk 19 nt [x] np)=F.expr x):=hid (by rw[U.out,q,vk,eS]);(have q':nt=⟨#[45]⟩\/nt=⟨#[33]⟩:=by unfold dW at q;simpa using q);obtain⟨y0,y1,y2,y3,-⟩:=J.out.below hB;clear q U;rcases q' with rfl|rfl;all_goals(go_enter func26,ntmps26);go_wp2_with fail;refine(gb.out _ (J.out.below hB)).mono ?_;rintro e w1⟨rfl,ga⟩;go_wp2_with fail;go_ret;exact⟨by rw[M.out];rfl,aD hB ga⟩
theorem NT(d:Nat)(C:lN d)(nt:ByteArray)(nl:List Nd)(np:Int)(A:Option Addr)(cp:Nat)(w:World)(hv:aF w (.agg #[.int .i64 23,nt,.slice A nl.length cp,np]) (.mk 23 nt nl np))(hd:dK (d+1) (.mk 23 nt nl np)):
  Calls prog 26 #[.agg #[.int .i64 23,nt,.slice A nl.length cp,np]] w fun e w'=>e=.returned (.bool (aA (aa d) (.mk 23 nt nl np)))/\Below w w w':=by
 have HV:=hid hv;have HD:=hid hd;have J:=hd.1.1;have HT:=hid C.typ;have HE:=hid C.expr;have hB:=(aj w #[.int .i64 23,nt,.slice A nl.length cp,np]).1;have M:=(aj w #[.int .i64 23,nt,.slice A nl.length cp,np]).2;clear hv hd C;generalize aa d=F at *;simp only[Nd.kids_mk]at J;have HR:=hid (show aA F (.mk 23 nt nl np)=(ov F.expr nl&&aE nt)from(by simp[aA]:aA F (.mk 23 nt nl np)=cA 23 [F.expr] (au aE (.mk 23 nt nl np))).trans (mR _ _ _ _));by_cases h2:nl.length=1
 rotate_left
 ·(have gd:((nl.length:Int)==1)=false:=by rw[gC];omega);have O:Hid (aA F (.mk 23 nt nl np)=false):=hid (by rw[HR.out,ow _ h2,jG]);clear h2;generalize nl.length=m at *;(go_enter func26,ntmps26);go_wp2_with fail;go_ret;exact⟨by rw[O.out];rfl,hB⟩
 obtain⟨x,rfl⟩:=rC h2;have ge:=hid (eS F.expr x);have U:aF w (.agg #[.int .i64 23,nt,.slice A 1 cp,np]) (.mk 23 nt [x] np):=HV.out;have hB:Below w w (w.alloc (.cells #[.int .i64 23,nt,.slice A 1 cp,np] 24)):=hB;have M:an (w.alloc (.cells #[.int .i64 23,nt,.slice A 1 cp,np] 24)) w.heap.size 24 #[.int .i64 23,nt,.slice A 1 cp,np]:=M;obtain⟨bx,ox,A1,c1,rfl,hx⟩:=cE U 0 (by simp);simp only[Nd.kids_mk,gT,jK,jD]at hx;have N:=hid hx;have gb:=hid (fun w'(h:C4 w' bx ox x A1 c1)=>HE.out _ x w' h.2.2.2.2 (HD.out.kid (k:=x) (by simp)));clear hx U HV h2;cases q:aE nt with
 |false=>have O:Hid (aA F (.mk 23 nt [x] np)=false):=hid (by rw[HR.out,q,jU]);(go_enter func26,ntmps26);go_wp2_with fail;refine(dS _ _).mono ?_;rw[q];rintro e w1⟨rfl,D⟩;go_wp2_with fail;go_ret;exact⟨by rw[O.out];rfl,aD hB D⟩
 |true=>have O:Hid (aA F (.mk 23 nt [x] np)=F.expr x):=hid (by rw[HR.out,q,vk,eS]);(go_enter func26,ntmps26);go_wp2_with fail;refine(dS _ _).mono ?_;rw[q];rintro e w1⟨rfl,D⟩;have I:=aD hB D;obtain⟨y0,y1,y2,y3,-⟩:=N.out.below I;go_wp2_with fail;refine(gb.out _ (N.out.below I)).mono ?_;rintro e w2⟨rfl,ga⟩;go_wp2_with fail;go_ret;exact⟨by rw[O.out];rfl,aD I ga⟩
theorem NU(d:Nat)(C:lN d)(nt:ByteArray)(nl:List Nd)(np:Int)(A:Option Addr)(cp:Nat)(w:World)(hv:aF w (.agg #[.int .i64 21,nt,.slice A nl.length cp,np]) (.mk 21 nt nl np))(hd:dK (d+1) (.mk 21 nt nl np)):
  Calls prog 26 #[.agg #[.int .i64 21,nt,.slice A nl.length cp,np]] w fun e w'=>e=.returned (.bool (aA (aa d) (.mk 21 nt nl np)))/\Below w w w':=by
 have HV:=hid hv;have HD:=hid hd;have D:=hd.1.1;have HT:=hid C.typ;have HE:=hid C.expr;have I:=hid (oy d C.expr);have hB:=(aj w #[.int .i64 21,nt,.slice A nl.length cp,np]).1;have gb:=(aj w #[.int .i64 21,nt,.slice A nl.length cp,np]).2;clear hv hd C;generalize aa d=F at *;simp only[Nd.kids_mk]at D;have O:=hid (show aA F (.mk 21 nt nl np)=(decide (nt=(⟨#[]⟩:BA))&&(decide (0<nl.length)&&nl.all F.expr))by(simp[aA];rfl));by_cases N:nt=⟨#[]⟩
 rotate_left
 ·(have J:nt.toList.isEmpty=false:=by rw[aq];simpa using N);have M:Hid (aA F (.mk 21 nt nl np)=false):=hid (by rw[O.out,gM N,jG]);clear N;(go_enter func26,ntmps26);go_wp2_with fail;go_ret;exact⟨by rw[M.out];rfl,hB⟩
 subst N;by_cases h:0<nl.length
 rotate_left
 ·(have J:decide ((0:Int)<(nl.length:Int))=false:=by rw[gJ];omega);have ga:decide (0<nl.length)=false:=gM h;have M:Hid (aA F (.mk 21 ⟨#[]⟩ nl np)=false):=hid (by rw[O.out,gM h,jG,jU]);generalize nl.length=m at *;(go_enter func26,ntmps26);go_wp2_with fail;go_ret;exact⟨by rw[M.out];rfl,hB⟩
 (have J:decide ((0:Int)<(nl.length:Int))=true:=by rw[gK];omega);have M:Hid (aA F (.mk 21 ⟨#[]⟩ nl np)=nl.all F.expr):=hid (by rw[O.out,jO h];simp);have I:=hid (I.out A cp nl _ (af.kidsV (af.below HV.out hB)) (fun n hn=>HD.out.kid hn) D);clear O;(go_enter func26,ntmps26);go_wp2_with fail;refine(I.out).mono ?_;rintro e w1⟨rfl,U⟩;go_wp2_with fail;go_ret;exact⟨by rw[M.out];rfl,aD hB U⟩
def pk(f g:Nd->Bool):List Nd->Bool
 |[a,b]=>f a&&g b
 |_=>false
theorem Bw(f g:Nd->Bool){l:List Nd}(h:l.length≠2):pk f g l=false:=by
 rcases l with _|⟨x,_|⟨y,_|⟨z,l⟩⟩⟩
 ·rfl
 ·rfl
 ·exact absurd rfl h
 ·rfl
theorem EJ{l:List Nd}(h:l.length=2):∃x y,l=[x,y]:=by
 rcases l with _|⟨x,_|⟨y,_|⟨z,l⟩⟩⟩
 ·simp at h
 ·simp at h
 ·exact⟨x,y,rfl⟩
 ·simp at h
theorem pl(k:Int)(f g:Nd->Bool)(n:Nd):cA k [f,g] n=(decide (n.kind=k)&&(decide (n.text=(⟨#[]⟩:BA))&&pk f g n.kids)):=by
 unfold cA;congr 2;rcases n.kids with _|⟨x,_|⟨y,_|⟨z,l⟩⟩⟩
 ·rfl
 ·simp[aY,pk]
 ·simp[aY,pk]
 ·simp[aY,pk]
theorem dN{d:Nat}{n:Nd}(h:(aa d).typ n=true):n.kind=10\/n.kind=11\/n.kind=12:=by
 cases d with
 |zero=>cases h
 |succ d=>
  rw[show(aa (d+1)).typ n=dA (aa d) n from rfl]at h;obtain⟨k,t,l,p⟩:=n;by_cases J:k=10
  ·exact .inl J
  by_cases I:k=11
  ·exact .inr (.inl I)
  by_cases D:k=12
  ·exact .inr (.inr D)
  rw[Ae _ _ _ _ _ J I D]at h;cases h
theorem NV(d:Nat)(C:lN d)(nt:ByteArray)(nl:List Nd)(np:Int)(A:Option Addr)(cp:Nat)(w:World)(hv:aF w (.agg #[.int .i64 25,nt,.slice A nl.length cp,np]) (.mk 25 nt nl np))(hd:dK (d+1) (.mk 25 nt nl np)):
  Calls prog 26 #[.agg #[.int .i64 25,nt,.slice A nl.length cp,np]] w fun e w'=>e=.returned (.bool (aA (aa d) (.mk 25 nt nl np)))/\Below w w w':=by
 have HV:=hid hv;have HD:=hid hd;have U:=hd.1.1;have HT:=hid C.typ;have HE:=hid C.expr;have gd:=hid (CX d C.typ true);have ge:=hid C.block;have hB:=(aj w #[.int .i64 25,nt,.slice A nl.length cp,np]).1;have ga:=(aj w #[.int .i64 25,nt,.slice A nl.length cp,np]).2;clear hv hd C;generalize aa d=F at *;simp only[Nd.kids_mk]at U;have HR:=hid (show aA F (.mk 25 nt nl np)=(decide (nt=(⟨#[]⟩:BA))&&pk (fw F) F.block nl)from(by simp[aA]:aA F (.mk 25 nt nl np)=cA 25 [fw F,F.block] (.mk 25 nt nl np)).trans ((pl _ _ _ _).trans (by simp;rfl)));by_cases h1:nt=⟨#[]⟩
 rotate_left
 ·(have gg:nt.toList.isEmpty=false:=by rw[aq];simpa using h1);have I:Hid (aA F (.mk 25 nt nl np)=false):=hid (by rw[HR.out,gM h1,jG]);clear h1;(go_enter func26,ntmps26);go_wp2_with fail;go_ret;exact⟨by rw[I.out];rfl,hB⟩
 subst h1;by_cases h2:nl.length=2
 rotate_left
 ·(have gg:((nl.length:Int)==2)=false:=by rw[gC];omega);have I:Hid (aA F (.mk 25 ⟨#[]⟩ nl np)=false):=hid (by rw[HR.out,Bw _ _ h2,jU]);clear h2;generalize nl.length=m at *;(go_enter func26,ntmps26);go_wp2_with fail;go_ret;exact⟨by rw[I.out];rfl,hB⟩
 obtain⟨x,y,rfl⟩:=EJ h2;have O:aF w (.agg #[.int .i64 25,.string ⟨#[]⟩,.slice A 2 cp,.int .i64 np]) (.mk 25 ⟨#[]⟩ [x,y] np):=HV.out;have hB:Below w w (w.alloc (.cells #[.int .i64 25,.string ⟨#[]⟩,.slice A 2 cp,.int .i64 np] 24)):=hB;have ga:an (w.alloc (.cells #[.int .i64 25,.string ⟨#[]⟩,.slice A 2 cp,.int .i64 np] 24)) w.heap.size 24 #[.int .i64 25,.string ⟨#[]⟩,.slice A 2 cp,.int .i64 np]:=ga;obtain⟨bx,ox,A1,c1,rfl,hx⟩:=cE O 0 (by simp);obtain⟨bx',ox',A2,c2,e,hy⟩:=cE O 1 (by simp);injection e with e;injection e with e1 e2;subst e1 e2;simp only[Nd.kids_mk,gT,kL,jK,jD,qC]at hx hy;have N:=hid hx;have gb:=hid hy;have gi:=HD.out.kid (k:=x) (by simp);have gh:=HD.out.kid (k:=y) (by simp);have D:=hid (fun w'(h:C4 w' bx ox x A1 c1)=>gd.out _ x w' h.2.2.2.2 gi.succ);have gk:=hid (fun w'(h:C4 w' bx (ox+4) y A2 c2)=>ge.out _ y w' h.2.2.2.2 gh);have I:=hid (show aA F (.mk 25 ⟨#[]⟩ [x,y] np)=(io F (dR true) x&&F.block y)by rw[HR.out];simp[pk,fw,dR]);clear hx hy O HV h2 HR gd ge;obtain⟨y0,y1,y2,y3,-⟩:=N.out.below hB;cases q1:io F (dR true) x with
 |false=>rw[q1]at D I;(go_enter func26,ntmps26);go_wp2_with fail;refine(D.out _ (N.out.below hB)).mono ?_;rintro e w1⟨rfl,J⟩;go_wp2_with fail;go_ret;exact⟨by rw[I.out];rfl,aD hB J⟩
 |true=>rw[q1]at D I;(go_enter func26,ntmps26);go_wp2_with fail;refine(D.out _ (N.out.below hB)).mono ?_;rintro e w1⟨rfl,J⟩;have M:=aD hB J;obtain⟨z0,z1,z2,z3,-⟩:=gb.out.below M;go_wp2_with fail;refine(gk.out _ (gb.out.below M)).mono ?_;rintro e w2⟨rfl,gj⟩;go_wp2_with fail;go_ret;exact⟨by rw[I.out];rfl,aD M gj⟩
theorem NW(d:Nat)(C:lN d)(nt:ByteArray)(nl:List Nd)(np:Int)(A:Option Addr)(cp:Nat)(w:World)(hv:aF w (.agg #[.int .i64 24,nt,.slice A nl.length cp,np]) (.mk 24 nt nl np))(hd:dK (d+1) (.mk 24 nt nl np)):
  Calls prog 26 #[.agg #[.int .i64 24,nt,.slice A nl.length cp,np]] w fun e w'=>e=.returned (.bool (aA (aa d) (.mk 24 nt nl np)))/\Below w w w':=by
 have HV:=hid hv;have HD:=hid hd;have J:=hd.1.1;have HT:=hid C.typ;have HE:=hid C.expr;have gi:=hid (oy d C.expr);have HK:=hid (fun n h=>dN (d:=d) (n:=n) h);have hB:=(aj w #[.int .i64 24,nt,.slice A nl.length cp,np]).1;have gr:=(aj w #[.int .i64 24,nt,.slice A nl.length cp,np]).2;clear hv hd C;generalize aa d=F at *;simp only[Nd.kids_mk]at J;have HR:=hid (show aA F (.mk 24 nt nl np)=(decide (nt=(⟨#[]⟩:BA))&&(decide (0<nl.length)&&(decide ((nl.getD 0 bX).kind≠12)&&(F.typ (nl.getD 0 bX)&&(nl.drop 1).all F.expr))))by(simp[aA];rfl));by_cases h1:nt=⟨#[]⟩
 rotate_left
 ·(have gd:nt.toList.isEmpty=false:=by rw[aq];simpa using h1);have HX:Hid (aA F (.mk 24 nt nl np)=false):=hid (by rw[HR.out,gM h1,jG]);clear h1;(go_enter func26,ntmps26);go_wp2_with fail;go_ret;exact⟨by rw[HX.out];rfl,hB⟩
 subst h1;by_cases U:0<nl.length
 rotate_left
 ·(have gd:decide ((0:Int)<(nl.length:Int))=false:=by rw[gJ];omega);have gp:decide (0<nl.length)=false:=gM U;have HX:Hid (aA F (.mk 24 ⟨#[]⟩ nl np)=false):=hid (by rw[HR.out,gM U,jG,jU]);generalize nl.length=m at *;(go_enter func26,ntmps26);go_wp2_with fail;go_ret;exact⟨by rw[HX.out];rfl,hB⟩
 obtain⟨x,l,rfl⟩:∃x l,nl=x::l:=by
  rcases nl with _|⟨x,l⟩
  ·simp at U
  ·exact⟨x,l,rfl⟩
 (have gd:decide ((0:Int)<((x::l).length:Int))=true:=by rw[gK];omega);have O:=hid (show aA F (.mk 24 ⟨#[]⟩ (x::l) np)=(decide (x.kind≠12)&&(F.typ x&&l.all F.expr))by rw[HR.out,jO U];simp);obtain⟨bx,ox,A1,c1,hA,hx⟩:=cE HV.out 0 U;simp only[Nd.kids_mk,gT,jK,jD]at hx;subst hA;have N:=hid hx;have gk:=HD.out.kid (k:=x) (by simp);have D:=hid (fun w'(h:C4 w' bx ox x A1 c1)=>HT.out _ x w' h.2.2.2.2 gk);(have gg:(x::l).length<=cp:=by obtain⟨A9,c9,gq,e9,h9,-⟩:=af.kidsV HV.out;injection e9 with _ _ e9;omega);obtain⟨A',gj,gb⟩:=uK (some ⟨bx,ox,none⟩) (x::l).length cp U gg;have gn:=hid (fun w'(hb:Below w w w')=>gi.out A' (cp-1) l w' (by have:=gb _ w' _ (cS.below (af.kidsV HV.out) hb);simpa using this) (fun n hn=>HD.out.kid (k:=n) (by simp[hn])) (by have:=J;simp at this;omega));(have ge:(x::l).length-1=l.length:=by simp);rw[ge]at gj;obtain⟨y0,y1,y2,y3,-⟩:=N.out.below hB;clear hx gb HR gi ge;generalize hm:(x::l).length=m at *;by_cases q0:x.kind=10\/x.kind=11
 rotate_left
 ·(have g1:(x.kind==10)=false:=by rw[gC];exact fun h=>q0 (.inl h));(have g2:(x.kind==11)=false:=by rw[gC];exact fun h=>q0 (.inr h));have HX:Hid (aA F (.mk 24 ⟨#[]⟩ (x::l) np)=false):=hid (by
   rw[O.out];cases ht:F.typ x with
   |false=>simp
   |true=>have:=HK.out x ht;(have gm:x.kind=12:=by omega);simp[gm])
  clear q0;(go_enter func26,ntmps26);go_wp2_with fail;go_ret;exact⟨by rw[HX.out];rfl,hB⟩
 have I:=hid (show aA F (.mk 24 ⟨#[]⟩ (x::l) np)=(F.typ x&&l.all F.expr)by rw[O.out,jO (show x.kind≠12 by omega),kK]);(have ga:(x.kind==10)=true\/((x.kind==10)=false/\(x.kind==11)=true):=by rcases q0 with h|h<;>simp[h]);clear O q0;cases q1:F.typ x with
 |false=>rw[q1]at D I;rcases ga with g1|⟨g1,g2⟩;all_goals(go_enter func26,ntmps26);go_wp2_with fail;refine(D.out _ (N.out.below hB)).mono ?_;rintro e w1⟨rfl,M⟩;go_wp2_with fail;go_ret;exact⟨by rw[I.out];rfl,aD hB M⟩
 |true=>rw[q1]at D I;rcases ga with g1|⟨g1,g2⟩;all_goals(go_enter func26,ntmps26);go_wp2_with fail;refine(D.out _ (N.out.below hB)).mono ?_;rintro e w1⟨rfl,M⟩;have gh:=aD hB M;go_wp2_with fail;refine(gn.out _ gh).mono ?_;rintro e w2⟨rfl,gl⟩;go_wp2_with fail;go_ret;exact⟨by rw[I.out];rfl,aD gh gl⟩
theorem NX(d:Nat)(C:lN d)(nt:ByteArray)(nl:List Nd)(np:Int)(A:Option Addr)(cp:Nat)(w:World)(hv:aF w (.agg #[.int .i64 22,nt,.slice A nl.length cp,np]) (.mk 22 nt nl np))(hd:dK (d+1) (.mk 22 nt nl np)):
  Calls prog 26 #[.agg #[.int .i64 22,nt,.slice A nl.length cp,np]] w fun e w'=>e=.returned (.bool (aA (aa d) (.mk 22 nt nl np)))/\Below w w w':=by
 have HV:=hid hv;have HD:=hid hd;have gr:=hd.1.1;have HT:=hid C.typ;have HE:=hid C.expr;have hB:=(aj w #[.int .i64 22,nt,.slice A nl.length cp,np]).1;have gy:=(aj w #[.int .i64 22,nt,.slice A nl.length cp,np]).2;clear hv hd C;generalize aa d=F at *;simp only[Nd.kids_mk]at gr;have HR:=hid (show aA F (.mk 22 nt nl np)=(decide (nt=(⟨#[]⟩:BA))&&(decide (1<nl.length)&&(F.expr (nl.getD 0 bX)&&(nl.drop 1).all (dB F))))by(simp[aA];rfl));by_cases h1:nt=⟨#[]⟩
 rotate_left
 ·(have yk:nt.toList.isEmpty=false:=by rw[aq];simpa using h1);have J:Hid (aA F (.mk 22 nt nl np)=false):=hid (by rw[HR.out,gM h1,jG]);clear h1;(go_enter func26,ntmps26);go_wp2_with fail;go_ret;exact⟨by rw[J.out];rfl,hB⟩
 subst h1;by_cases h2:1<nl.length
 rotate_left
 ·(have yk:decide ((nl.length:Int)<2)=true:=by rw[gK];omega);have J:Hid (aA F (.mk 22 ⟨#[]⟩ nl np)=false):=hid (by rw[HR.out,gM h2,jG,jU]);clear h2;generalize nl.length=m at *;(go_enter func26,ntmps26);go_wp2_with fail;go_ret;exact⟨by rw[J.out];rfl,hB⟩
 obtain⟨x,l,rfl⟩:∃x l,nl=x::l:=by
  rcases nl with _|⟨x,l⟩
  ·simp at h2
  ·exact⟨x,l,rfl⟩
 (have yk:decide (((x::l).length:Int)<2)=false:=by rw[gJ];omega);have gn:=hid (show aA F (.mk 22 ⟨#[]⟩ (x::l) np)=(F.expr x&&l.all (dB F))by rw[HR.out,jO h2];simp);(have gw:0<(x::l).length:=by simp);obtain⟨bx,ox,A1,c1,hA,hx⟩:=cE HV.out 0 gw;simp only[Nd.kids_mk,gT,jK,jD]at hx;subst hA;have gg:=hid hx;have gx:=HD.out.kid (k:=x) (by simp);have gd:=hid (fun w'(h:C4 w' bx ox x A1 c1)=>HE.out _ x w' h.2.2.2.2 gx);(have gq:(x::l).length=l.length+1:=by simp);obtain⟨y0,y1,y2,y3,-⟩:=gg.out.below hB;clear hx HR;generalize hm:(x::l).length=m at *;have gh:=hid gq;clear gq hm;cases q1:F.expr x with
 |false=>have J:Hid (aA F (.mk 22 ⟨#[]⟩ (x::l) np)=false):=hid (by rw[gn.out,q1,jG]);rw[q1]at gd;(go_enter func26,ntmps26);go_wp2_with fail;refine(gd.out _ (gg.out.below hB)).mono ?_;rintro e w1⟨rfl,ge⟩;go_wp2_with fail;go_ret;exact⟨by rw[J.out];rfl,aD hB ge⟩
 | true=>
  have gj:=hid (show aA F (.mk 22 ⟨#[]⟩ (x::l) np)=l.all (dB F)by rw[gn.out,q1,kK]);rw[q1]at gd;clear gn q1;(go_enter func26,ntmps26);go_wp2_with fail;refine(gd.out _ (gg.out.below hB)).mono ?_;rintro e w1⟨rfl,ge⟩;have gu:=aD hB ge;clear y0 y1 y2 y3 hB gy ge gd gg yk;go_wp2_with fail;go_loopg [4] m (fun k u4 wr=>∃i:Nat,1<=i/\i<=m/\m-i<=k/\u4=.int .i64 (i:Int)/\Below w w wr/\(l.take (i-1)).all (dB F)=true)
  case atStart=>exact⟨1,gA _,by omega,by omega,rfl,gu,rfl⟩
  case round=>
   clear gu;obtain⟨i,g0,hi,hk,rfl,O,N⟩:=hrel;by_cases gz:i<m
   ·(have gp:(i:Int)<(m:Int):=by omega);(have h0:(0:Int)<=(i:Int):=by omega);(have gs:i-1<l.length:=by have:=gh.out;omega);obtain⟨bp,op,A2,c2,gm,hp⟩:=cE (af.below HV.out O) i (by have:=gh.out;simp;omega);(have gi:(x::l)[i]'(by have:=gh.out;simp;omega)=l[i-1]:=by obtain⟨j,rfl⟩:∃j,i=j+1:=⟨i-1,by omega⟩;simp);simp only[Nd.kids_mk,gi]at hp;injection gm with gm;injection gm with g1 g2;subst g1 g2;have M:Hid (dB F l[i-1]=true->(l.take (i+1-1)).all (dB F)=true):=hid (by intro h;rw[show i+1-1=i-1+1 by omega,gZ gs,qQ,N];simp[h]);have I:Hid (dB F l[i-1]=false->aA F (.mk 22 ⟨#[]⟩ (x::l) np)=false):=hid (by intro h;rw[gj.out,vu];exact⟨_,gX gs,by simp[h]⟩);have gt:=HD.out.kid (k:=l[i-1]) (by simp);clear gi N;generalize l[i-1]=q at *;have HP:=hid hp;have ga:=hid (HE.out _ q wr hp.2.2.2.2 gt);have U:=hid (fun w'(h:C4 w' bx (ox+i*4) q A2 c2)=>HT.out _ q w' h.2.2.2.2 gt);obtain⟨p0,p1,p2,p3,-⟩:=hp;unfold dB at M I;cases q3:F.expr q with
    |true=>
     have J:=hid (M.out (by simp[q3]));rw[q3]at ga;clear q3 M I U;go_wp2_with fail;refine(ga.out).mono ?_;rintro e w3⟨rfl,D⟩;go_wp2_with fail;go_roundg (m-(i+1))
     case measure=>omega
     case rel=>exact⟨i+1,by omega,by omega,gA _,by go_num,aD O D,J.out⟩
    | false=>
     rw[q3]at ga;by_cases q4:q.kind=10
     ·(have gv:(q.kind==10)=true:=by simpa using q4);have J:=hid (I.out (by simp[q3,q4]));clear q3 q4 M I U;go_wp2_with fail;refine(ga.out).mono ?_;rintro e w3⟨rfl,D⟩;have gb:=aD O D;clear p0 p1 p2 p3;obtain⟨p0,p1,p2,p3,-⟩:=HP.out.below D;go_wp2_with fail;go_ret;exact⟨by rw[J.out];rfl,gb⟩
     (have gv:(q.kind==10)=false:=by simpa using q4);cases q5:F.typ q with
     |false=>have J:=hid (I.out (by simp[q3,q5]));rw[q5]at U;clear q3 q4 q5 M I;go_wp2_with fail;refine(ga.out).mono ?_;rintro e w3⟨rfl,D⟩;have gb:=aD O D;clear p0 p1 p2 p3;obtain⟨p0,p1,p2,p3,-⟩:=HP.out.below D;go_wp2_with fail;refine(U.out _ (HP.out.below D)).mono ?_;rintro e w4⟨rfl,gl⟩;go_wp2_with fail;go_ret;exact⟨by rw[J.out];rfl,aD gb gl⟩
     |true=>
      have J:=hid (M.out (by simp[q4,q5]));rw[q5]at U;clear q3 q4 q5 M I;go_wp2_with fail;refine(ga.out).mono ?_;rintro e w3⟨rfl,D⟩;have gb:=aD O D;clear p0 p1 p2 p3;obtain⟨p0,p1,p2,p3,-⟩:=HP.out.below D;go_wp2_with fail;refine(U.out _ (HP.out.below D)).mono ?_;rintro e w4⟨rfl,gl⟩;go_wp2_with fail;go_roundg (m-(i+1))
      case measure=>omega
      case rel=>exact⟨i+1,by omega,by omega,gA _,by go_num,aD gb gl,J.out⟩
   ·(have gp:¬ (i:Int)<(m:Int):=by omega);have J:Hid (aA F (.mk 22 ⟨#[]⟩ (x::l) np)=true):=hid (by rw[gj.out,<-N,jA (by have:=gh.out;omega)]);clear N;go_wp2_with fail;go_ret;exact⟨by rw[J.out];rfl,O⟩
end
end Go.Proofs.YtiebcdeafofgdaaGreatDoor
