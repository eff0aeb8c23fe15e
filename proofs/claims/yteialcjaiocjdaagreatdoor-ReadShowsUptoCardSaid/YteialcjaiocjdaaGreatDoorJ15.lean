/-
  Parts of the proof: Uexpr1 Uexpr2 Uexpr3 Urange. By an AI agent.
-/
import Derived.Test.YteialcjaiocjdaaGreatDoorJ14
import Derived.Test.YteialcjaiocjdaaGreatDoorJ11
import Derived.Test.YteialcjaiocjdaaGreatDoorJ12
import Derived.Lib.IndexBytes
open Go.Proofs.Tryz
set_option maxRecDepth 100000
set_option maxHeartbeats 8000000
namespace Go.Proofs.YteialcjaiocjdaaGreatDoor
section
open Go.RowKit Go.Lib Go.Proofs
attribute [local go_sem ↓] Go.wp_at_zero Go.wp_at_succ
theorem kP:type_of% @Bool.true_or:=@Bool.true_or
structure l8(d:Nat):Prop where
 typ:tg d 16 (aa d).typ
 expr:tg d 17 (aa d).expr
 stmt:tg d 18 (aa d).stmt
 block:tg d 37 (aa d).block
theorem tu(k:Int)(D:k≠37)(so:ByteArray->Bool)(l:List Nd){t:ByteArray}{p:Int}:cE k [] (aw so (.mk k t l p))=(decide (l.length=0)&&so t):=by
 rw[show aw so (.mk k t l p)=if so t=true then .mk k ⟨#[]⟩ l p else .mk 37 ⟨#[]⟩ [] 0 from rfl];by_cases hs:so t=true
 ·rw[gG hs];unfold cE;rcases l with _|⟨x,l⟩<;>simp[hs,a6]
 ·rw[gB hs];rw[qz]at hs;unfold cE;rw[show decide ((Nd.mk 37 ⟨#[]⟩ [] 0).kind=k)=false from gP (fun h=>D (Eq.symm h))];simp[hs]
theorem m7(k:Int)(f:Nd->Bool)(so:ByteArray->Bool)(l:List Nd){t:ByteArray}{p:Int}:cE k [f] (aw so (.mk k t l p))=(l5 f l&&so t):=by rw[ms];simp
theorem NW(d:Nat)(C:l8 d)(nt:ByteArray)(nl:List Nd)(np:Int)(A:Option Addr)(cp:Nat)(w:World)(N:aF w (.agg #[.int .i64 16,nt,.slice A nl.length cp,np]) (.mk 16 nt nl np))(hd:df (d+1) (.mk 16 nt nl np)):
  Calls prog 17 #[.agg #[.int .i64 16,nt,.slice A nl.length cp,np]] w fun e w'=>e=.returned (.bool (aH (aa d) (.mk 16 nt nl np)))/\Below w w w':=by
 have h:=hid N;have HD:=hid hd;have D:=hd.1.1;have HT:=hid C.typ;have HE:=hid C.expr;have hB:=(aj w #[.int .i64 16,nt,.slice A nl.length cp,np]).1;have U:=(aj w #[.int .i64 16,nt,.slice A nl.length cp,np]).2;clear N hd C;generalize aa d=F at *;simp only[Nd.kids_mk]at D;have O:=hid (show aH F (.mk 16 nt nl np)=(decide (nl.length=0)&&cW nt)from(by simp[aH]:aH F (.mk 16 nt nl np)=cE 16 [] (aw cW (.mk 16 nt nl np))).trans (tu 16 (by decide) _ _));by_cases I:nl.length=0
 rotate_left
 ·(have J:((nl.length:Int)==0)=false:=by rw[gF];omega);have M:Hid (aH F (.mk 16 nt nl np)=false):=hid (by rw[O.out,gP I,jA]);clear I;generalize nl.length=m at *;(go_enter func17,ntmps17);go_wp2_with fail;go_ret;exact⟨by rw[M.out];rfl,hB⟩
 (have J:((nl.length:Int)==0)=true:=by rw[kO];omega);have M:Hid (aH F (.mk 16 nt nl np)=cW nt):=hid (by rw[O.out,jK I,jP]);clear I;generalize nl.length=m at *;(go_enter func17,ntmps17);go_wp2_with fail;refine(E5 _ _).mono ?_;rintro e w1⟨rfl,rfl⟩;go_wp2_with fail;go_ret;exact⟨by rw[M.out];rfl,hB⟩
theorem NX(d:Nat)(C:l8 d)(nt:ByteArray)(nl:List Nd)(np:Int)(A:Option Addr)(cp:Nat)(w:World)(N:aF w (.agg #[.int .i64 17,nt,.slice A nl.length cp,np]) (.mk 17 nt nl np))(hd:df (d+1) (.mk 17 nt nl np)):
  Calls prog 17 #[.agg #[.int .i64 17,nt,.slice A nl.length cp,np]] w fun e w'=>e=.returned (.bool (aH (aa d) (.mk 17 nt nl np)))/\Below w w w':=by
 have h:=hid N;have HD:=hid hd;have D:=hd.1.1;have HT:=hid C.typ;have HE:=hid C.expr;have hB:=(aj w #[.int .i64 17,nt,.slice A nl.length cp,np]).1;have U:=(aj w #[.int .i64 17,nt,.slice A nl.length cp,np]).2;clear N hd C;generalize aa d=F at *;simp only[Nd.kids_mk]at D;have O:=hid (show aH F (.mk 17 nt nl np)=(decide (nl.length=0)&&ed nt)from(by simp[aH]:aH F (.mk 17 nt nl np)=cE 17 [] (aw ed (.mk 17 nt nl np))).trans (tu 17 (by decide) _ _));by_cases I:nl.length=0
 rotate_left
 ·(have J:((nl.length:Int)==0)=false:=by rw[gF];omega);have M:Hid (aH F (.mk 17 nt nl np)=false):=hid (by rw[O.out,gP I,jA]);clear I;generalize nl.length=m at *;(go_enter func17,ntmps17);go_wp2_with fail;go_ret;exact⟨by rw[M.out];rfl,hB⟩
 (have J:((nl.length:Int)==0)=true:=by rw[kO];omega);have M:Hid (aH F (.mk 17 nt nl np)=ed nt):=hid (by rw[O.out,jK I,jP]);clear I;generalize nl.length=m at *;(have hd:ed nt=decide ((nt.size:Int)<=1000):=by unfold ed;rw[kV];omega);cases q:decide ((nt.size:Int)<=1000);all_goals rw[q]at hd;(go_enter func17,ntmps17);go_wp2_with fail;go_ret;exact⟨by rw[M.out,hd];rfl,hB⟩
theorem NY(d:Nat)(C:l8 d)(nt:ByteArray)(nl:List Nd)(np:Int)(A:Option Addr)(cp:Nat)(w:World)(O:aF w (.agg #[.int .i64 18,nt,.slice A nl.length cp,np]) (.mk 18 nt nl np))(hd:df (d+1) (.mk 18 nt nl np)):
  Calls prog 17 #[.agg #[.int .i64 18,nt,.slice A nl.length cp,np]] w fun e w'=>e=.returned (.bool (aH (aa d) (.mk 18 nt nl np)))/\Below w w w':=by
 have HV:=hid O;have HD:=hid hd;have D:=hd.1.1;have HT:=hid C.typ;have HE:=hid C.expr;have hB:=(aj w #[.int .i64 18,nt,.slice A nl.length cp,np]).1;have h:=(aj w #[.int .i64 18,nt,.slice A nl.length cp,np]).2;clear O hd C;generalize aa d=F at *;simp only[Nd.kids_mk]at D;have U:=hid (show aH F (.mk 18 nt nl np)=(decide (nl.length=0)&&aB nt)from(by simp[aH]:aH F (.mk 18 nt nl np)=cE 18 [] (aw aB (.mk 18 nt nl np))).trans (tu 18 (by decide) _ _));by_cases I:nl.length=0
 rotate_left
 ·(have J:((nl.length:Int)==0)=false:=by rw[gF];omega);have N:Hid (aH F (.mk 18 nt nl np)=false):=hid (by rw[U.out,gP I,jA]);clear I;generalize nl.length=m at *;(go_enter func17,ntmps17);go_wp2_with fail;go_ret;exact⟨by rw[N.out];rfl,hB⟩
 (have J:((nl.length:Int)==0)=true:=by rw[kO];omega);have N:Hid (aH F (.mk 18 nt nl np)=aB nt):=hid (by rw[U.out,jK I,jP]);clear I;generalize nl.length=m at *;(go_enter func17,ntmps17);go_wp2_with fail;refine(aQ _ _).mono ?_;rintro e w1⟨rfl,M⟩;go_wp2_with fail;go_ret;exact⟨by rw[N.out];rfl,au hB M⟩
theorem NZ(d:Nat)(C:l8 d)(nt:ByteArray)(nl:List Nd)(np:Int)(A:Option Addr)(cp:Nat)(w:World)(hv:aF w (.agg #[.int .i64 19,nt,.slice A nl.length cp,np]) (.mk 19 nt nl np))(hd:df (d+1) (.mk 19 nt nl np)):
  Calls prog 17 #[.agg #[.int .i64 19,nt,.slice A nl.length cp,np]] w fun e w'=>e=.returned (.bool (aH (aa d) (.mk 19 nt nl np)))/\Below w w w':=by
 have HV:=hid hv;have HD:=hid hd;have D:=hd.1.1;have HT:=hid C.typ;have HE:=hid C.expr;have hB:=(aj w #[.int .i64 19,nt,.slice A nl.length cp,np]).1;have I:=(aj w #[.int .i64 19,nt,.slice A nl.length cp,np]).2;clear hv hd C;generalize aa d=F at *;simp only[Nd.kids_mk]at D;have U:=hid (show aH F (.mk 19 nt nl np)=(l5 F.expr nl&&fw nt)from(by simp[aH]:aH F (.mk 19 nt nl np)=cE 19 [F.expr] (aw fw (.mk 19 nt nl np))).trans (m7 _ _ _ _));by_cases O:nl.length=1
 rotate_left
 ·(have gd:((nl.length:Int)==1)=false:=by rw[gF];omega);have M:Hid (aH F (.mk 19 nt nl np)=false):=hid (by rw[U.out,iI _ O,jA]);clear O;generalize nl.length=m at *;(go_enter func17,ntmps17);go_wp2_with fail;go_ret;exact⟨by rw[M.out];rfl,hB⟩
 obtain⟨x,rfl⟩:=nu O;have ge:=hid (dX F.expr x);have N:aF w (.agg #[.int .i64 19,nt,.slice A 1 cp,np]) (.mk 19 nt [x] np):=HV.out;have hB:Below w w (w.alloc (.cells #[.int .i64 19,nt,.slice A 1 cp,np] 24)):=hB;have I:aq (w.alloc (.cells #[.int .i64 19,nt,.slice A 1 cp,np] 24)) w.heap.size 24 #[.int .i64 19,nt,.slice A 1 cp,np]:=I;obtain⟨bx,ox,A1,c1,rfl,hx⟩:=bC N 0 (by simp);simp only[Nd.kids_mk,gN,jF,gZ]at hx;have J:=hid hx;have gb:=hid (fun w'(h:C4 w' bx ox x A1 c1)=>HE.out _ x w' h.2.2.2.2 (HD.out.kid (k:=x) (by simp)));clear hx N HV O;cases q:fw nt with
 |false=>(have e1:(nt.toList==[45])=false:=by unfold fw at q;rw[<-cy nt [45]];exact(Bool.or_eq_false_iff.1 q).1);(have e2:(nt.toList==[33])=false:=by unfold fw at q;rw[<-cy nt [33]];exact(Bool.or_eq_false_iff.1 q).2);have M:Hid (aH F (.mk 19 nt [x] np)=false):=hid (by rw[U.out,q,jL]);clear q;(go_enter func17,ntmps17);go_wp2_with fail;go_ret;exact⟨by rw[M.out];rfl,hB⟩
 |true=>have M:Hid (aH F (.mk 19 nt [x] np)=F.expr x):=hid (by rw[U.out,q,qJ,dX]);(have q':nt=⟨#[45]⟩\/nt=⟨#[33]⟩:=by unfold fw at q;simpa using q);obtain⟨y0,y1,y2,y3,-⟩:=J.out.below hB;clear q U;rcases q' with rfl|rfl;all_goals(go_enter func17,ntmps17);go_wp2_with fail;refine(gb.out _ (J.out.below hB)).mono ?_;rintro e w1⟨rfl,ga⟩;go_wp2_with fail;go_ret;exact⟨by rw[M.out];rfl,au hB ga⟩
theorem N0(d:Nat)(C:l8 d)(nt:ByteArray)(nl:List Nd)(np:Int)(A:Option Addr)(cp:Nat)(w:World)(hv:aF w (.agg #[.int .i64 23,nt,.slice A nl.length cp,np]) (.mk 23 nt nl np))(hd:df (d+1) (.mk 23 nt nl np)):
  Calls prog 17 #[.agg #[.int .i64 23,nt,.slice A nl.length cp,np]] w fun e w'=>e=.returned (.bool (aH (aa d) (.mk 23 nt nl np)))/\Below w w w':=by
 have HV:=hid hv;have HD:=hid hd;have J:=hd.1.1;have HT:=hid C.typ;have HE:=hid C.expr;have hB:=(aj w #[.int .i64 23,nt,.slice A nl.length cp,np]).1;have M:=(aj w #[.int .i64 23,nt,.slice A nl.length cp,np]).2;clear hv hd C;generalize aa d=F at *;simp only[Nd.kids_mk]at J;have HR:=hid (show aH F (.mk 23 nt nl np)=(l5 F.expr nl&&aB nt)from(by simp[aH]:aH F (.mk 23 nt nl np)=cE 23 [F.expr] (aw aB (.mk 23 nt nl np))).trans (m7 _ _ _ _));by_cases h2:nl.length=1
 rotate_left
 ·(have gd:((nl.length:Int)==1)=false:=by rw[gF];omega);have O:Hid (aH F (.mk 23 nt nl np)=false):=hid (by rw[HR.out,iI _ h2,jA]);clear h2;generalize nl.length=m at *;(go_enter func17,ntmps17);go_wp2_with fail;go_ret;exact⟨by rw[O.out];rfl,hB⟩
 obtain⟨x,rfl⟩:=nu h2;have ge:=hid (dX F.expr x);have U:aF w (.agg #[.int .i64 23,nt,.slice A 1 cp,np]) (.mk 23 nt [x] np):=HV.out;have hB:Below w w (w.alloc (.cells #[.int .i64 23,nt,.slice A 1 cp,np] 24)):=hB;have M:aq (w.alloc (.cells #[.int .i64 23,nt,.slice A 1 cp,np] 24)) w.heap.size 24 #[.int .i64 23,nt,.slice A 1 cp,np]:=M;obtain⟨bx,ox,A1,c1,rfl,hx⟩:=bC U 0 (by simp);simp only[Nd.kids_mk,gN,jF,gZ]at hx;have N:=hid hx;have gb:=hid (fun w'(h:C4 w' bx ox x A1 c1)=>HE.out _ x w' h.2.2.2.2 (HD.out.kid (k:=x) (by simp)));clear hx U HV h2;cases q:aB nt with
 |false=>have O:Hid (aH F (.mk 23 nt [x] np)=false):=hid (by rw[HR.out,q,jL]);(go_enter func17,ntmps17);go_wp2_with fail;refine(aQ _ _).mono ?_;rw[q];rintro e w1⟨rfl,D⟩;go_wp2_with fail;go_ret;exact⟨by rw[O.out];rfl,au hB D⟩
 |true=>have O:Hid (aH F (.mk 23 nt [x] np)=F.expr x):=hid (by rw[HR.out,q,qJ,dX]);(go_enter func17,ntmps17);go_wp2_with fail;refine(aQ _ _).mono ?_;rw[q];rintro e w1⟨rfl,D⟩;have I:=au hB D;obtain⟨y0,y1,y2,y3,-⟩:=N.out.below I;go_wp2_with fail;refine(gb.out _ (N.out.below I)).mono ?_;rintro e w2⟨rfl,ga⟩;go_wp2_with fail;go_ret;exact⟨by rw[O.out];rfl,au I ga⟩
theorem N1(d:Nat)(C:l8 d)(nt:ByteArray)(nl:List Nd)(np:Int)(A:Option Addr)(cp:Nat)(w:World)(hv:aF w (.agg #[.int .i64 21,nt,.slice A nl.length cp,np]) (.mk 21 nt nl np))(hd:df (d+1) (.mk 21 nt nl np)):
  Calls prog 17 #[.agg #[.int .i64 21,nt,.slice A nl.length cp,np]] w fun e w'=>e=.returned (.bool (aH (aa d) (.mk 21 nt nl np)))/\Below w w w':=by
 have HV:=hid hv;have HD:=hid hd;have D:=hd.1.1;have HT:=hid C.typ;have HE:=hid C.expr;have I:=hid (oK d C.expr);have hB:=(aj w #[.int .i64 21,nt,.slice A nl.length cp,np]).1;have gb:=(aj w #[.int .i64 21,nt,.slice A nl.length cp,np]).2;clear hv hd C;generalize aa d=F at *;simp only[Nd.kids_mk]at D;have O:=hid (show aH F (.mk 21 nt nl np)=(decide (nt=(⟨#[]⟩:BA))&&(decide (0<nl.length)&&nl.all F.expr))by(simp[aH];rfl));by_cases N:nt=⟨#[]⟩
 rotate_left
 ·(have J:nt.toList.isEmpty=false:=by rw[ao];simpa using N);have M:Hid (aH F (.mk 21 nt nl np)=false):=hid (by rw[O.out,gP N,jA]);clear N;(go_enter func17,ntmps17);go_wp2_with fail;go_ret;exact⟨by rw[M.out];rfl,hB⟩
 subst N;by_cases h:0<nl.length
 rotate_left
 ·(have J:decide ((0:Int)<(nl.length:Int))=false:=by rw[gK];omega);have ga:decide (0<nl.length)=false:=gP h;have M:Hid (aH F (.mk 21 ⟨#[]⟩ nl np)=false):=hid (by rw[O.out,gP h,jA,jL]);generalize nl.length=m at *;(go_enter func17,ntmps17);go_wp2_with fail;go_ret;exact⟨by rw[M.out];rfl,hB⟩
 (have J:decide ((0:Int)<(nl.length:Int))=true:=by rw[gR];omega);have M:Hid (aH F (.mk 21 ⟨#[]⟩ nl np)=nl.all F.expr):=hid (by rw[O.out,jK h];simp);have I:=hid (I.out A cp nl _ (af.kidsV (af.below HV.out hB)) (fun n hn=>HD.out.kid hn) D);clear O;(go_enter func17,ntmps17);go_wp2_with fail;refine(I.out).mono ?_;rintro e w1⟨rfl,U⟩;go_wp2_with fail;go_ret;exact⟨by rw[M.out];rfl,au hB U⟩
def nw(f g:Nd->Bool):List Nd->Bool
 |[a,b]=>f a&&g b
 |_=>false
theorem pT(f g:Nd->Bool){l:List Nd}(h:l.length≠2):nw f g l=false:=by
 rcases l with _|⟨x,_|⟨y,_|⟨z,l⟩⟩⟩
 ·rfl
 ·rfl
 ·exact absurd rfl h
 ·rfl
theorem E6{l:List Nd}(h:l.length=2):∃x y,l=[x,y]:=by
 rcases l with _|⟨x,_|⟨y,_|⟨z,l⟩⟩⟩
 ·simp at h
 ·simp at h
 ·exact⟨x,y,rfl⟩
 ·simp at h
theorem pC(k:Int)(f g:Nd->Bool)(n:Nd):cE k [f,g] n=(decide (n.kind=k)&&(decide (n.text=(⟨#[]⟩:BA))&&nw f g n.kids)):=by
 unfold cE;congr 2;rcases n.kids with _|⟨x,_|⟨y,_|⟨z,l⟩⟩⟩
 ·rfl
 ·simp[a6,nw]
 ·simp[a6,nw]
 ·simp[a6,nw]
theorem ct{d:Nat}{n:Nd}(h:(aa d).typ n=true):n.kind=10\/n.kind=11\/n.kind=12:=by
 cases d with
 |zero=>cases h
 |succ d=>
  rw[show(aa (d+1)).typ n=dH (aa d) n from rfl]at h;obtain⟨k,t,l,p⟩:=n;by_cases J:k=10
  ·exact .inl J
  by_cases I:k=11
  ·exact .inr (.inl I)
  by_cases D:k=12
  ·exact .inr (.inr D)
  rw[AB _ _ _ _ _ J I D]at h;cases h
theorem N2(d:Nat)(C:l8 d)(nt:ByteArray)(nl:List Nd)(np:Int)(A:Option Addr)(cp:Nat)(w:World)(hv:aF w (.agg #[.int .i64 25,nt,.slice A nl.length cp,np]) (.mk 25 nt nl np))(hd:df (d+1) (.mk 25 nt nl np)):
  Calls prog 17 #[.agg #[.int .i64 25,nt,.slice A nl.length cp,np]] w fun e w'=>e=.returned (.bool (aH (aa d) (.mk 25 nt nl np)))/\Below w w w':=by
 have HV:=hid hv;have HD:=hid hd;have U:=hd.1.1;have HT:=hid C.typ;have HE:=hid C.expr;have gd:=hid (wJ d C.typ true);have ge:=hid C.block;have hB:=(aj w #[.int .i64 25,nt,.slice A nl.length cp,np]).1;have ga:=(aj w #[.int .i64 25,nt,.slice A nl.length cp,np]).2;clear hv hd C;generalize aa d=F at *;simp only[Nd.kids_mk]at U;have HR:=hid (show aH F (.mk 25 nt nl np)=(decide (nt=(⟨#[]⟩:BA))&&nw (er F) F.block nl)from(by simp[aH]:aH F (.mk 25 nt nl np)=cE 25 [er F,F.block] (.mk 25 nt nl np)).trans ((pC _ _ _ _).trans (by simp;rfl)));by_cases h1:nt=⟨#[]⟩
 rotate_left
 ·(have gg:nt.toList.isEmpty=false:=by rw[ao];simpa using h1);have I:Hid (aH F (.mk 25 nt nl np)=false):=hid (by rw[HR.out,gP h1,jA]);clear h1;(go_enter func17,ntmps17);go_wp2_with fail;go_ret;exact⟨by rw[I.out];rfl,hB⟩
 subst h1;by_cases h2:nl.length=2
 rotate_left
 ·(have gg:((nl.length:Int)==2)=false:=by rw[gF];omega);have I:Hid (aH F (.mk 25 ⟨#[]⟩ nl np)=false):=hid (by rw[HR.out,pT _ _ h2,jL]);clear h2;generalize nl.length=m at *;(go_enter func17,ntmps17);go_wp2_with fail;go_ret;exact⟨by rw[I.out];rfl,hB⟩
 obtain⟨x,y,rfl⟩:=E6 h2;have O:aF w (.agg #[.int .i64 25,.string ⟨#[]⟩,.slice A 2 cp,.int .i64 np]) (.mk 25 ⟨#[]⟩ [x,y] np):=HV.out;have hB:Below w w (w.alloc (.cells #[.int .i64 25,.string ⟨#[]⟩,.slice A 2 cp,.int .i64 np] 24)):=hB;have ga:aq (w.alloc (.cells #[.int .i64 25,.string ⟨#[]⟩,.slice A 2 cp,.int .i64 np] 24)) w.heap.size 24 #[.int .i64 25,.string ⟨#[]⟩,.slice A 2 cp,.int .i64 np]:=ga;obtain⟨bx,ox,A1,c1,rfl,hx⟩:=bC O 0 (by simp);obtain⟨bx',ox',A2,c2,e,hy⟩:=bC O 1 (by simp);injection e with e;injection e with e1 e2;subst e1 e2;simp only[Nd.kids_mk,gN,kC,jF,gZ,qe]at hx hy;have N:=hid hx;have gb:=hid hy;have gi:=HD.out.kid (k:=x) (by simp);have gh:=HD.out.kid (k:=y) (by simp);have D:=hid (fun w'(h:C4 w' bx ox x A1 c1)=>gd.out _ x w' h.2.2.2.2 gi.succ);have gk:=hid (fun w'(h:C4 w' bx (ox+4) y A2 c2)=>ge.out _ y w' h.2.2.2.2 gh);have I:=hid (show aH F (.mk 25 ⟨#[]⟩ [x,y] np)=(il F (dF true) x&&F.block y)by rw[HR.out];simp[nw,er,dF]);clear hx hy O HV h2 HR gd ge;obtain⟨y0,y1,y2,y3,-⟩:=N.out.below hB;cases q1:il F (dF true) x with
 |false=>rw[q1]at D I;(go_enter func17,ntmps17);go_wp2_with fail;refine(D.out _ (N.out.below hB)).mono ?_;rintro e w1⟨rfl,J⟩;go_wp2_with fail;go_ret;exact⟨by rw[I.out];rfl,au hB J⟩
 |true=>rw[q1]at D I;(go_enter func17,ntmps17);go_wp2_with fail;refine(D.out _ (N.out.below hB)).mono ?_;rintro e w1⟨rfl,J⟩;have M:=au hB J;obtain⟨z0,z1,z2,z3,-⟩:=gb.out.below M;go_wp2_with fail;refine(gk.out _ (gb.out.below M)).mono ?_;rintro e w2⟨rfl,gj⟩;go_wp2_with fail;go_ret;exact⟨by rw[I.out];rfl,au M gj⟩
theorem N3(d:Nat)(C:l8 d)(nt:ByteArray)(nl:List Nd)(np:Int)(A:Option Addr)(cp:Nat)(w:World)(hv:aF w (.agg #[.int .i64 24,nt,.slice A nl.length cp,np]) (.mk 24 nt nl np))(hd:df (d+1) (.mk 24 nt nl np)):
  Calls prog 17 #[.agg #[.int .i64 24,nt,.slice A nl.length cp,np]] w fun e w'=>e=.returned (.bool (aH (aa d) (.mk 24 nt nl np)))/\Below w w w':=by
 have HV:=hid hv;have HD:=hid hd;have J:=hd.1.1;have HT:=hid C.typ;have HE:=hid C.expr;have gi:=hid (oK d C.expr);have HK:=hid (fun n h=>ct (d:=d) (n:=n) h);have hB:=(aj w #[.int .i64 24,nt,.slice A nl.length cp,np]).1;have gr:=(aj w #[.int .i64 24,nt,.slice A nl.length cp,np]).2;clear hv hd C;generalize aa d=F at *;simp only[Nd.kids_mk]at J;have HR:=hid (show aH F (.mk 24 nt nl np)=(decide (nt=(⟨#[]⟩:BA))&&(decide (0<nl.length)&&(decide ((nl.getD 0 cc).kind≠12)&&(F.typ (nl.getD 0 cc)&&(nl.drop 1).all F.expr))))by(simp[aH];rfl));by_cases h1:nt=⟨#[]⟩
 rotate_left
 ·(have gd:nt.toList.isEmpty=false:=by rw[ao];simpa using h1);have HX:Hid (aH F (.mk 24 nt nl np)=false):=hid (by rw[HR.out,gP h1,jA]);clear h1;(go_enter func17,ntmps17);go_wp2_with fail;go_ret;exact⟨by rw[HX.out];rfl,hB⟩
 subst h1;by_cases U:0<nl.length
 rotate_left
 ·(have gd:decide ((0:Int)<(nl.length:Int))=false:=by rw[gK];omega);have gp:decide (0<nl.length)=false:=gP U;have HX:Hid (aH F (.mk 24 ⟨#[]⟩ nl np)=false):=hid (by rw[HR.out,gP U,jA,jL]);generalize nl.length=m at *;(go_enter func17,ntmps17);go_wp2_with fail;go_ret;exact⟨by rw[HX.out];rfl,hB⟩
 obtain⟨x,l,rfl⟩:∃x l,nl=x::l:=by
  rcases nl with _|⟨x,l⟩
  ·simp at U
  ·exact⟨x,l,rfl⟩
 (have gd:decide ((0:Int)<((x::l).length:Int))=true:=by rw[gR];omega);have O:=hid (show aH F (.mk 24 ⟨#[]⟩ (x::l) np)=(decide (x.kind≠12)&&(F.typ x&&l.all F.expr))by rw[HR.out,jK U];simp);obtain⟨bx,ox,A1,c1,hA,hx⟩:=bC HV.out 0 U;simp only[Nd.kids_mk,gN,jF,gZ]at hx;subst hA;have N:=hid hx;have gk:=HD.out.kid (k:=x) (by simp);have D:=hid (fun w'(h:C4 w' bx ox x A1 c1)=>HT.out _ x w' h.2.2.2.2 gk);(have gg:(x::l).length<=cp:=by obtain⟨A9,c9,gq,e9,h9,-⟩:=af.kidsV HV.out;injection e9 with _ _ e9;omega);obtain⟨A',gj,gb⟩:=uQ (some ⟨bx,ox,none⟩) (x::l).length cp U gg;have gn:=hid (fun w'(hb:Below w w w')=>gi.out A' (cp-1) l w' (by have:=gb _ w' _ (cV.below (af.kidsV HV.out) hb);simpa using this) (fun n hn=>HD.out.kid (k:=n) (by simp[hn])) (by have:=J;simp at this;omega));(have ge:(x::l).length-1=l.length:=by simp);rw[ge]at gj;obtain⟨y0,y1,y2,y3,-⟩:=N.out.below hB;clear hx gb HR gi ge;generalize hm:(x::l).length=m at *;by_cases q0:x.kind=10\/x.kind=11
 rotate_left
 ·(have g1:(x.kind==10)=false:=by rw[gF];exact fun h=>q0 (.inl h));(have g2:(x.kind==11)=false:=by rw[gF];exact fun h=>q0 (.inr h));have HX:Hid (aH F (.mk 24 ⟨#[]⟩ (x::l) np)=false):=hid (by
   rw[O.out];cases ht:F.typ x with
   |false=>simp
   |true=>have:=HK.out x ht;(have gm:x.kind=12:=by omega);simp[gm])
  clear q0;(go_enter func17,ntmps17);go_wp2_with fail;go_ret;exact⟨by rw[HX.out];rfl,hB⟩
 have I:=hid (show aH F (.mk 24 ⟨#[]⟩ (x::l) np)=(F.typ x&&l.all F.expr)by rw[O.out,jK (show x.kind≠12 by omega),jP]);(have ga:(x.kind==10)=true\/((x.kind==10)=false/\(x.kind==11)=true):=by rcases q0 with h|h<;>simp[h]);clear O q0;cases q1:F.typ x with
 |false=>rw[q1]at D I;rcases ga with g1|⟨g1,g2⟩;all_goals(go_enter func17,ntmps17);go_wp2_with fail;refine(D.out _ (N.out.below hB)).mono ?_;rintro e w1⟨rfl,M⟩;go_wp2_with fail;go_ret;exact⟨by rw[I.out];rfl,au hB M⟩
 |true=>rw[q1]at D I;rcases ga with g1|⟨g1,g2⟩;all_goals(go_enter func17,ntmps17);go_wp2_with fail;refine(D.out _ (N.out.below hB)).mono ?_;rintro e w1⟨rfl,M⟩;have gh:=au hB M;go_wp2_with fail;refine(gn.out _ gh).mono ?_;rintro e w2⟨rfl,gl⟩;go_wp2_with fail;go_ret;exact⟨by rw[I.out];rfl,au gh gl⟩
theorem N4(d:Nat)(C:l8 d)(nt:ByteArray)(nl:List Nd)(np:Int)(A:Option Addr)(cp:Nat)(w:World)(hv:aF w (.agg #[.int .i64 22,nt,.slice A nl.length cp,np]) (.mk 22 nt nl np))(hd:df (d+1) (.mk 22 nt nl np)):
  Calls prog 17 #[.agg #[.int .i64 22,nt,.slice A nl.length cp,np]] w fun e w'=>e=.returned (.bool (aH (aa d) (.mk 22 nt nl np)))/\Below w w w':=by
 have HV:=hid hv;have HD:=hid hd;have gr:=hd.1.1;have HT:=hid C.typ;have HE:=hid C.expr;have hB:=(aj w #[.int .i64 22,nt,.slice A nl.length cp,np]).1;have gy:=(aj w #[.int .i64 22,nt,.slice A nl.length cp,np]).2;clear hv hd C;generalize aa d=F at *;simp only[Nd.kids_mk]at gr;have HR:=hid (show aH F (.mk 22 nt nl np)=(decide (nt=(⟨#[]⟩:BA))&&(decide (1<nl.length)&&(F.expr (nl.getD 0 cc)&&(nl.drop 1).all (dJ F))))by(simp[aH];rfl));by_cases h1:nt=⟨#[]⟩
 rotate_left
 ·(have yk:nt.toList.isEmpty=false:=by rw[ao];simpa using h1);have J:Hid (aH F (.mk 22 nt nl np)=false):=hid (by rw[HR.out,gP h1,jA]);clear h1;(go_enter func17,ntmps17);go_wp2_with fail;go_ret;exact⟨by rw[J.out];rfl,hB⟩
 subst h1;by_cases h2:1<nl.length
 rotate_left
 ·(have yk:decide ((nl.length:Int)<2)=true:=by rw[gR];omega);have J:Hid (aH F (.mk 22 ⟨#[]⟩ nl np)=false):=hid (by rw[HR.out,gP h2,jA,jL]);clear h2;generalize nl.length=m at *;(go_enter func17,ntmps17);go_wp2_with fail;go_ret;exact⟨by rw[J.out];rfl,hB⟩
 obtain⟨x,l,rfl⟩:∃x l,nl=x::l:=by
  rcases nl with _|⟨x,l⟩
  ·simp at h2
  ·exact⟨x,l,rfl⟩
 (have yk:decide (((x::l).length:Int)<2)=false:=by rw[gK];omega);have gn:=hid (show aH F (.mk 22 ⟨#[]⟩ (x::l) np)=(F.expr x&&l.all (dJ F))by rw[HR.out,jK h2];simp);(have gw:0<(x::l).length:=by simp);obtain⟨bx,ox,A1,c1,hA,hx⟩:=bC HV.out 0 gw;simp only[Nd.kids_mk,gN,jF,gZ]at hx;subst hA;have gg:=hid hx;have gx:=HD.out.kid (k:=x) (by simp);have gd:=hid (fun w'(h:C4 w' bx ox x A1 c1)=>HE.out _ x w' h.2.2.2.2 gx);(have gq:(x::l).length=l.length+1:=by simp);obtain⟨y0,y1,y2,y3,-⟩:=gg.out.below hB;clear hx HR;generalize hm:(x::l).length=m at *;have gh:=hid gq;clear gq hm;cases q1:F.expr x with
 |false=>have J:Hid (aH F (.mk 22 ⟨#[]⟩ (x::l) np)=false):=hid (by rw[gn.out,q1,jA]);rw[q1]at gd;(go_enter func17,ntmps17);go_wp2_with fail;refine(gd.out _ (gg.out.below hB)).mono ?_;rintro e w1⟨rfl,ge⟩;go_wp2_with fail;go_ret;exact⟨by rw[J.out];rfl,au hB ge⟩
 | true=>
  have gj:=hid (show aH F (.mk 22 ⟨#[]⟩ (x::l) np)=l.all (dJ F)by rw[gn.out,q1,jP]);rw[q1]at gd;clear gn q1;(go_enter func17,ntmps17);go_wp2_with fail;refine(gd.out _ (gg.out.below hB)).mono ?_;rintro e w1⟨rfl,ge⟩;have gu:=au hB ge;clear y0 y1 y2 y3 hB gy ge gd gg yk;go_wp2_with fail;go_loopg [4] m (fun k u4 wr=>∃i:Nat,1<=i/\i<=m/\m-i<=k/\u4=.int .i64 (i:Int)/\Below w w wr/\(l.take (i-1)).all (dJ F)=true)
  case atStart=>exact⟨1,gC _,by omega,by omega,rfl,gu,rfl⟩
  case round=>
   clear gu;obtain⟨i,g0,hi,hk,rfl,O,N⟩:=hrel;by_cases gz:i<m
   ·(have gp:(i:Int)<(m:Int):=by omega);(have h0:(0:Int)<=(i:Int):=by omega);(have gs:i-1<l.length:=by have:=gh.out;omega);obtain⟨bp,op,A2,c2,gm,hp⟩:=bC (af.below HV.out O) i (by have:=gh.out;simp;omega);(have gi:(x::l)[i]'(by have:=gh.out;simp;omega)=l[i-1]:=by obtain⟨j,rfl⟩:∃j,i=j+1:=⟨i-1,by omega⟩;simp);simp only[Nd.kids_mk,gi]at hp;injection gm with gm;injection gm with g1 g2;subst g1 g2;have M:Hid (dJ F l[i-1]=true->(l.take (i+1-1)).all (dJ F)=true):=hid (by intro h;rw[show i+1-1=i-1+1 by omega,gU gs,kU,N];simp[h]);have I:Hid (dJ F l[i-1]=false->aH F (.mk 22 ⟨#[]⟩ (x::l) np)=false):=hid (by intro h;rw[gj.out,qg];exact⟨_,gS gs,by simp[h]⟩);have gt:=HD.out.kid (k:=l[i-1]) (by simp);clear gi N;generalize l[i-1]=q at *;have HP:=hid hp;have ga:=hid (HE.out _ q wr hp.2.2.2.2 gt);have U:=hid (fun w'(h:C4 w' bx (ox+i*4) q A2 c2)=>HT.out _ q w' h.2.2.2.2 gt);obtain⟨p0,p1,p2,p3,-⟩:=hp;unfold dJ at M I;cases q3:F.expr q with
    |true=>
     have J:=hid (M.out (by simp[q3]));rw[q3]at ga;clear q3 M I U;go_wp2_with fail;refine(ga.out).mono ?_;rintro e w3⟨rfl,D⟩;go_wp2_with fail;go_roundg (m-(i+1))
     case measure=>omega
     case rel=>exact⟨i+1,by omega,by omega,gC _,by go_num,au O D,J.out⟩
    | false=>
     rw[q3]at ga;by_cases q4:q.kind=10
     ·(have gv:(q.kind==10)=true:=by simpa using q4);have J:=hid (I.out (by simp[q3,q4]));clear q3 q4 M I U;go_wp2_with fail;refine(ga.out).mono ?_;rintro e w3⟨rfl,D⟩;have gb:=au O D;clear p0 p1 p2 p3;obtain⟨p0,p1,p2,p3,-⟩:=HP.out.below D;go_wp2_with fail;go_ret;exact⟨by rw[J.out];rfl,gb⟩
     (have gv:(q.kind==10)=false:=by simpa using q4);cases q5:F.typ q with
     |false=>have J:=hid (I.out (by simp[q3,q5]));rw[q5]at U;clear q3 q4 q5 M I;go_wp2_with fail;refine(ga.out).mono ?_;rintro e w3⟨rfl,D⟩;have gb:=au O D;clear p0 p1 p2 p3;obtain⟨p0,p1,p2,p3,-⟩:=HP.out.below D;go_wp2_with fail;refine(U.out _ (HP.out.below D)).mono ?_;rintro e w4⟨rfl,gl⟩;go_wp2_with fail;go_ret;exact⟨by rw[J.out];rfl,au gb gl⟩
     |true=>
      have J:=hid (M.out (by simp[q4,q5]));rw[q5]at U;clear q3 q4 q5 M I;go_wp2_with fail;refine(ga.out).mono ?_;rintro e w3⟨rfl,D⟩;have gb:=au O D;clear p0 p1 p2 p3;obtain⟨p0,p1,p2,p3,-⟩:=HP.out.below D;go_wp2_with fail;refine(U.out _ (HP.out.below D)).mono ?_;rintro e w4⟨rfl,gl⟩;go_wp2_with fail;go_roundg (m-(i+1))
      case measure=>omega
      case rel=>exact⟨i+1,by omega,by omega,gC _,by go_num,au gb gl,J.out⟩
   ·(have gp:¬ (i:Int)<(m:Int):=by omega);have J:Hid (aH F (.mk 22 ⟨#[]⟩ (x::l) np)=true):=hid (by rw[gj.out,<-N,gV (by have:=gh.out;omega)]);clear N;go_wp2_with fail;go_ret;exact⟨by rw[J.out];rfl,O⟩
theorem yd(s:ByteArray)(i:Nat)(I:i<s.size):occAt s.data.toList [44] i=decide (cR s i=44):=by(have D:i<s.data.toList.length:=by simpa using I);unfold occAt cR;rw[kF D,jB,gT D];rw[kT,gR];simp only[List.isPrefixOf,qJ,kO,vk];rw[<-vt];exact eq_comm
theorem Rh(s:ByteArray)(i:Nat)(D:s.size<=i):occAt s.data.toList [44] i=false:=by unfold occAt;rw[kz (by simpa using D)];rfl
theorem yL(s:ByteArray)(i:Nat)(I:i<s.size)(hb:cR s i=44)(M:∀j,j<i->cR s j≠44):bR s=(aB (s.extract 0 i)&&cj (s.extract (i+1) s.size)):=by have J:Lib.index s.data.toList [44]=i:=index_first (by simp;omega) (by rw[yd s i I,hb];rfl) (fun j hj=>by rw[yd s j (by omega),gP (M j hj)]);(have N:fx s=(s.data.toList.take i,s.data.toList.drop (i+1),true):=by unfold fx Lib.cut;rw[J,gG (by omega)];simp);(have D:s≠⟨#[]⟩:=by rintro rfl;simp[ByteArray.size]at I);(have U:(⟨(s.data.toList.take i).toArray⟩:ByteArray)=s.extract 0 i:=by apply qI;apply Array.toList_inj.1;rw[extract_data];simp);(have O:(⟨(s.data.toList.drop (i+1)).toArray⟩:ByteArray)=s.extract (i+1) s.size:=by apply qI;apply Array.toList_inj.1;rw[extract_data];rw[gV (by simp)]);unfold bR;rw[N,U,O,gP D];simp
theorem BX(s:ByteArray)(I:∀j,j<s.size->cR s j≠44):bR s=(decide (s=(⟨#[]⟩:BA))||cj s):=by
 have D:Lib.index s.data.toList [44] = -1:=index_none (fun j _=>by
  by_cases h:j<s.size
  ·rw[yd s j h,gP (I j h)]
  ·exact Rh s j (by omega))
 (have J:fx s=(s.data.toList,[],false):=by unfold fx Lib.cut;rw[D,gB (by decide)]);(have M:(⟨s.data.toList.toArray⟩:ByteArray)=s:=by apply qI;simp);unfold bR;rw[J,M];simp
theorem pD(s:ByteArray)(hs:s.size<=1000000000)(w:World):Calls prog 45 #[s] w fun e w'=>e=.returned (.bool (bR s))/\Below w w w':=by
 (go_enter func45,ntmps45);go_wp2_with fail;go_loopg [3] s.size (fun k u3 wr=>∃i:Nat,i<=s.size/\s.size-i<=k/\u3=.int .i64 (i:Int)/\w=wr/\∀j,j<i->cR s j≠44)
 case atStart=>exact⟨0,gQ _,by omega,rfl,rfl,fun j hj=>by omega⟩
 case round=>
  obtain⟨i,hi,hk,rfl,rfl,I⟩:=hrel;have HA:=hid I;clear I;by_cases U:i<s.size
  ·(have O:(i:Int)<(s.size:Int):=by omega);have hb:=fun W=>nR s i U W;by_cases h:cR s i=44
   ·have HR:=hid (yL s i U h HA.out);rw[h]at hb;(have p0:(0:Int)<=(i:Int):=by omega);(have p1:(i:Int)<=(s.size:Int):=by omega);(have p2:(0:Int)<=(i:Int)+1:=by omega);(have p3:(i:Int)+1<=(s.size:Int):=by omega);have q1:IntKind.i64.wrap ((i:Int)+1)=(i:Int)+1:=jC _ (by omega);(have q2:((i:Int)+1).toNat=i+1:=by omega);clear h;cases D:aB (s.extract 0 i)with
    |false=>have N:Hid (bR s=false):=hid (by rw[HR.out,D,jA]);go_wp2_with fail;refine(aQ _ _).mono ?_;rw[D];rintro e w1⟨rfl,M⟩;go_wp2_with fail;go_ret;exact⟨by rw[N.out];rfl,M⟩
    |true=>have N:=hid (show bR s=cj (s.extract (i+1) s.size)by rw[HR.out,D,jP]);go_wp2_with fail;refine(aQ _ _).mono ?_;rw[D];rintro e w1⟨rfl,M⟩;go_wp2_with fail;refine(oF _ _).mono ?_;rintro e w2⟨rfl,J⟩;go_wp2_with fail;go_ret;exact⟨by rw[N.out];rfl,au M J⟩
   ·(have gb:((cR s i:Int)==44)=false:=by rw[gF];omega);have ga:Hid (∀j,j<i+1->cR s j≠44):=hid (by
     intro j hj;by_cases e:j=i
     ·subst e;exact h
     ·exact HA.out j (by omega))
    clear h;go_wp2_with fail;go_roundg (s.size-(i+1))
    case measure=>omega
    case rel=>exact⟨i+1,by omega,gC _,by go_num,rfl,ga.out⟩
  ·(have O:¬ (i:Int)<(s.size:Int):=by omega);have HR:=hid (BX s (fun j hj=>HA.out j (by omega)));cases D:s.toList.isEmpty with
   |true=>have N:Hid (bR s=true):=hid (by rw[ao]at D;rw[HR.out,D,kP]);go_wp2_with fail;go_ret;exact⟨by rw[N.out];rfl,gH _ _⟩
   |false=>have N:Hid (bR s=cj s):=hid (by rw[ao]at D;rw[HR.out,D,ve]);go_wp2_with fail;refine(oF _ _).mono ?_;rintro e w2⟨rfl,J⟩;go_wp2_with fail;go_ret;exact⟨by rw[N.out];rfl,J⟩
end
end Go.Proofs.YteialcjaiocjdaaGreatDoor
