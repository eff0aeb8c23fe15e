/-
  Parts of the proof: Ustmt1 Ustmt2. By an AI agent.
-/
import Derived.Test.YteialcjaiocjdaaGreatDoorJ44
open Go.Proofs.Tryz
set_option maxRecDepth 100000
set_option maxHeartbeats 8000000
namespace Go.Proofs.YteialcjaiocjdaaGreatDoor
section
open Go.RowKit Go.Lib Go.Proofs
attribute [local go_sem ↓] Go.wp_at_zero Go.wp_at_succ
theorem Ri(d:Nat)(C:l8 d)(nt:ByteArray)(nl:List Nd)(np:Int)(A:Option Addr)(cp:Nat)(w:World)(N:aF w (.agg #[.int .i64 5,nt,.slice A nl.length cp,np]) (.mk 5 nt nl np))(hd:df (d+1) (.mk 5 nt nl np)):
  Calls prog 18 #[.agg #[.int .i64 5,nt,.slice A nl.length cp,np]] w fun e w'=>e=.returned (.bool (aE (aa d) (.mk 5 nt nl np)))/\Below w w w':=by have U:=hid N;have h:=hid hd;have D:=hd.1.1;have HT:=hid C.typ;have HE:=hid C.expr;have M:=hid (DC d C);have hB:=(aj w #[.int .i64 5,nt,.slice A nl.length cp,np]).1;have J:=(aj w #[.int .i64 5,nt,.slice A nl.length cp,np]).2;clear N hd C;generalize aa d=F at *;simp only[Nd.kids_mk]at D;have O:=hid (show aE F (.mk 5 nt nl np)=iL F (.mk 5 nt nl np)by simp[aE]);obtain⟨x0,x1,x2,x3,-,-,-,-⟩:=ab J;(go_enter func18,ntmps18);go_wp2_with fail;refine(M.out _ (.mk 5 nt nl np) _ (af.below U.out hB) h.out).mono ?_;rintro e w1⟨rfl,I⟩;go_wp2_with fail;go_ret;exact⟨by rw[O.out];rfl,au hB I⟩
theorem N6(d:Nat)(C:l8 d)(nt:ByteArray)(nl:List Nd)(np:Int)(A:Option Addr)(cp:Nat)(w:World)(hv:aF w (.agg #[.int .i64 26,nt,.slice A nl.length cp,np]) (.mk 26 nt nl np))(hd:df (d+1) (.mk 26 nt nl np)):
  Calls prog 18 #[.agg #[.int .i64 26,nt,.slice A nl.length cp,np]] w fun e w'=>e=.returned (.bool (aE (aa d) (.mk 26 nt nl np)))/\Below w w w':=by
 have HV:=hid hv;have HD:=hid hd;have J:=hd.1.1;have HT:=hid C.typ;have HE:=hid C.expr;have hB:=(aj w #[.int .i64 26,nt,.slice A nl.length cp,np]).1;have M:=(aj w #[.int .i64 26,nt,.slice A nl.length cp,np]).2;clear hv hd C;generalize aa d=F at *;simp only[Nd.kids_mk]at J;have HR:=hid (show aE F (.mk 26 nt nl np)=(l5 F.expr nl&&cj nt)from(by simp[aE,dz]:aE F (.mk 26 nt nl np)=cE 26 [F.expr] (aw cj (.mk 26 nt nl np))).trans (m7 _ _ _ _));by_cases h2:nl.length=1
 rotate_left
 ·(have gd:((nl.length:Int)==1)=false:=by rw[gF];omega);have O:Hid (aE F (.mk 26 nt nl np)=false):=hid (by rw[HR.out,iI _ h2,jA]);clear h2;generalize nl.length=m at *;(go_enter func18,ntmps18);go_wp2_with fail;go_ret;exact⟨by rw[O.out];rfl,hB⟩
 obtain⟨x,rfl⟩:=nu h2;have ge:=hid (dX F.expr x);have U:aF w (.agg #[.int .i64 26,nt,.slice A 1 cp,np]) (.mk 26 nt [x] np):=HV.out;have hB:Below w w (w.alloc (.cells #[.int .i64 26,nt,.slice A 1 cp,np] 24)):=hB;have M:aq (w.alloc (.cells #[.int .i64 26,nt,.slice A 1 cp,np] 24)) w.heap.size 24 #[.int .i64 26,nt,.slice A 1 cp,np]:=M;obtain⟨bx,ox,A1,c1,rfl,hx⟩:=bC U 0 (by simp);simp only[Nd.kids_mk,gN,jF,gZ]at hx;have N:=hid hx;have gb:=hid (fun w'(h:C4 w' bx ox x A1 c1)=>HE.out _ x w' h.2.2.2.2 (HD.out.kid (k:=x) (by simp)));clear hx U HV h2;cases q:cj nt with
 |false=>have O:Hid (aE F (.mk 26 nt [x] np)=false):=hid (by rw[HR.out,q,jL]);(go_enter func18,ntmps18);go_wp2_with fail;refine(oF _ _).mono ?_;rw[q];rintro e w1⟨rfl,D⟩;go_wp2_with fail;go_ret;exact⟨by rw[O.out];rfl,au hB D⟩
 |true=>have O:Hid (aE F (.mk 26 nt [x] np)=F.expr x):=hid (by rw[HR.out,q,qJ,dX]);(go_enter func18,ntmps18);go_wp2_with fail;refine(oF _ _).mono ?_;rw[q];rintro e w1⟨rfl,D⟩;have I:=au hB D;obtain⟨y0,y1,y2,y3,-⟩:=N.out.below I;go_wp2_with fail;refine(gb.out _ (N.out.below I)).mono ?_;rintro e w2⟨rfl,ga⟩;go_wp2_with fail;go_ret;exact⟨by rw[O.out];rfl,au I ga⟩
theorem N7(d:Nat)(C:l8 d)(nt:ByteArray)(nl:List Nd)(np:Int)(A:Option Addr)(cp:Nat)(w:World)(hv:aF w (.agg #[.int .i64 27,nt,.slice A nl.length cp,np]) (.mk 27 nt nl np))(hd:df (d+1) (.mk 27 nt nl np)):
  Calls prog 18 #[.agg #[.int .i64 27,nt,.slice A nl.length cp,np]] w fun e w'=>e=.returned (.bool (aE (aa d) (.mk 27 nt nl np)))/\Below w w w':=by
 have HV:=hid hv;have HD:=hid hd;have D:=hd.1.1;have HT:=hid C.typ;have HE:=hid C.expr;have I:=hid (oK d C.expr);have hB:=(aj w #[.int .i64 27,nt,.slice A nl.length cp,np]).1;have gb:=(aj w #[.int .i64 27,nt,.slice A nl.length cp,np]).2;clear hv hd C;generalize aa d=F at *;simp only[Nd.kids_mk]at D;have U:=hid (show aE F (.mk 27 nt nl np)=(decide (nt=(⟨#[]⟩:BA))&&(decide (nl.length=2)&&nl.all F.expr))by(have h:aE F (.mk 27 nt nl np)=cE 27 [F.expr,F.expr] (.mk 27 nt nl np):=by simp[aE,fz]);rw[h,pC,Gl];simp;rfl);by_cases O:nt=⟨#[]⟩
 rotate_left
 ·(have J:nt.toList.isEmpty=false:=by rw[ao];simpa using O);have M:Hid (aE F (.mk 27 nt nl np)=false):=hid (by rw[U.out,gP O,jA]);clear O;(go_enter func18,ntmps18);go_wp2_with fail;go_ret;exact⟨by rw[M.out];rfl,hB⟩
 subst O;have I:=hid (I.out A cp nl _ (af.kidsV (af.below HV.out hB)) (fun n hn=>HD.out.kid hn) D);by_cases N:nl.length=2
 rotate_left
 ·(have J:((nl.length:Int)==2)=false:=by rw[gF];omega);have M:Hid (aE F (.mk 27 ⟨#[]⟩ nl np)=false):=hid (by rw[U.out,gP N,jA,jL]);clear N;generalize nl.length=m at *;(go_enter func18,ntmps18);go_wp2_with fail;go_ret;exact⟨by rw[M.out];rfl,hB⟩
 (have J:((nl.length:Int)==2)=true:=by rw[kO];omega);have M:Hid (aE F (.mk 27 ⟨#[]⟩ nl np)=nl.all F.expr):=hid (by rw[U.out,jK N];simp);clear N U;generalize nl.all F.expr=res at *;generalize nl.length=m at *;(go_enter func18,ntmps18);go_wp2_with fail;refine(I.out).mono ?_;rintro e w1⟨rfl,ga⟩;go_wp2_with fail;go_ret;exact⟨by rw[M.out];rfl,au hB ga⟩
theorem N8(d:Nat)(C:l8 d)(nt:ByteArray)(nl:List Nd)(np:Int)(A:Option Addr)(cp:Nat)(w:World)(hv:aF w (.agg #[.int .i64 28,nt,.slice A nl.length cp,np]) (.mk 28 nt nl np))(hd:df (d+1) (.mk 28 nt nl np)):
  Calls prog 18 #[.agg #[.int .i64 28,nt,.slice A nl.length cp,np]] w fun e w'=>e=.returned (.bool (aE (aa d) (.mk 28 nt nl np)))/\Below w w w':=by
 have HV:=hid hv;have HD:=hid hd;have D:=hd.1.1;have HT:=hid C.typ;have HE:=hid C.expr;have hB:=(aj w #[.int .i64 28,nt,.slice A nl.length cp,np]).1;have I:=(aj w #[.int .i64 28,nt,.slice A nl.length cp,np]).2;clear hv hd C;generalize aa d=F at *;simp only[Nd.kids_mk]at D;have U:=hid (show aE F (.mk 28 nt nl np)=(l5 F.expr nl&&ix nt)from(by simp[aE,fy]:aE F (.mk 28 nt nl np)=cE 28 [F.expr] (aw ix (.mk 28 nt nl np))).trans (m7 _ _ _ _));by_cases O:nl.length=1
 rotate_left
 ·(have gd:((nl.length:Int)==1)=false:=by rw[gF];omega);have M:Hid (aE F (.mk 28 nt nl np)=false):=hid (by rw[U.out,iI _ O,jA]);clear O;generalize nl.length=m at *;(go_enter func18,ntmps18);go_wp2_with fail;go_ret;exact⟨by rw[M.out];rfl,hB⟩
 obtain⟨x,rfl⟩:=nu O;have ge:=hid (dX F.expr x);have N:aF w (.agg #[.int .i64 28,nt,.slice A 1 cp,np]) (.mk 28 nt [x] np):=HV.out;have hB:Below w w (w.alloc (.cells #[.int .i64 28,nt,.slice A 1 cp,np] 24)):=hB;have I:aq (w.alloc (.cells #[.int .i64 28,nt,.slice A 1 cp,np] 24)) w.heap.size 24 #[.int .i64 28,nt,.slice A 1 cp,np]:=I;obtain⟨bx,ox,A1,c1,rfl,hx⟩:=bC N 0 (by simp);simp only[Nd.kids_mk,gN,jF,gZ]at hx;have J:=hid hx;have gb:=hid (fun w'(h:C4 w' bx ox x A1 c1)=>HE.out _ x w' h.2.2.2.2 (HD.out.kid (k:=x) (by simp)));clear hx N HV O;cases q:ix nt with
 |false=>(have e1:(nt.toList==[43,43])=false:=by unfold ix at q;rw[<-cy nt [43,43]];exact(Bool.or_eq_false_iff.1 q).1);(have e2:(nt.toList==[45,45])=false:=by unfold ix at q;rw[<-cy nt [45,45]];exact(Bool.or_eq_false_iff.1 q).2);have M:Hid (aE F (.mk 28 nt [x] np)=false):=hid (by rw[U.out,q,jL]);clear q;(go_enter func18,ntmps18);go_wp2_with fail;go_ret;exact⟨by rw[M.out];rfl,hB⟩
 |true=>have M:Hid (aE F (.mk 28 nt [x] np)=F.expr x):=hid (by rw[U.out,q,qJ,dX]);(have q':nt=⟨#[43,43]⟩\/nt=⟨#[45,45]⟩:=by unfold ix at q;simpa using q);obtain⟨y0,y1,y2,y3,-⟩:=J.out.below hB;clear q U;rcases q' with rfl|rfl;all_goals(go_enter func18,ntmps18);go_wp2_with fail;refine(gb.out _ (J.out.below hB)).mono ?_;rintro e w1⟨rfl,ga⟩;go_wp2_with fail;go_ret;exact⟨by rw[M.out];rfl,au hB ga⟩
theorem N9(d:Nat)(C:l8 d)(nt:ByteArray)(nl:List Nd)(np:Int)(A:Option Addr)(cp:Nat)(w:World)(hv:aF w (.agg #[.int .i64 29,nt,.slice A nl.length cp,np]) (.mk 29 nt nl np))(hd:df (d+1) (.mk 29 nt nl np)):
  Calls prog 18 #[.agg #[.int .i64 29,nt,.slice A nl.length cp,np]] w fun e w'=>e=.returned (.bool (aE (aa d) (.mk 29 nt nl np)))/\Below w w w':=by
 have HV:=hid hv;have HD:=hid hd;have J:=hd.1.1;have HT:=hid C.typ;have HE:=hid C.expr;have hB:=(aj w #[.int .i64 29,nt,.slice A nl.length cp,np]).1;have M:=(aj w #[.int .i64 29,nt,.slice A nl.length cp,np]).2;clear hv hd C;generalize aa d=F at *;simp only[Nd.kids_mk]at J;have HR:=hid (show aE F (.mk 29 nt nl np)=(decide (nt=(⟨#[]⟩:BA))&&l5 (iS F) nl)by(have h:aE F (.mk 29 nt nl np)=cE 29 [iS F] (.mk 29 nt nl np):=by simp[aE,fd]);rw[h,tr];simp;rfl);by_cases h1:nt=⟨#[]⟩
 rotate_left
 ·(have ga:nt.toList.isEmpty=false:=by rw[ao];simpa using h1);have D:Hid (aE F (.mk 29 nt nl np)=false):=hid (by rw[HR.out,gP h1,jA]);clear h1;(go_enter func18,ntmps18);go_wp2_with fail;go_ret;exact⟨by rw[D.out];rfl,hB⟩
 subst h1;by_cases U:nl.length=1
 rotate_left
 ·(have ga:((nl.length:Int)==1)=false:=by rw[gF];omega);have D:Hid (aE F (.mk 29 ⟨#[]⟩ nl np)=false):=hid (by rw[HR.out,iI _ U,jL]);clear U;generalize nl.length=m at *;(go_enter func18,ntmps18);go_wp2_with fail;go_ret;exact⟨by rw[D.out];rfl,hB⟩
 obtain⟨x,rfl⟩:=nu U;have ge:=hid (dX F.expr x);have O:aF w (.agg #[.int .i64 29,.string ⟨#[]⟩,.slice A 1 cp,.int .i64 np]) (.mk 29 ⟨#[]⟩ [x] np):=HV.out;have hB:Below w w (w.alloc (.cells #[.int .i64 29,.string ⟨#[]⟩,.slice A 1 cp,.int .i64 np] 24)):=hB;have M:aq (w.alloc (.cells #[.int .i64 29,.string ⟨#[]⟩,.slice A 1 cp,.int .i64 np] 24)) w.heap.size 24 #[.int .i64 29,.string ⟨#[]⟩,.slice A 1 cp,.int .i64 np]:=M;obtain⟨bx,ox,A1,c1,rfl,hx⟩:=bC O 0 (by simp);simp only[Nd.kids_mk,gN,jF,gZ]at hx;have N:=hid hx;have gd:=hid (fun w'(h:C4 w' bx ox x A1 c1)=>HE.out _ x w' h.2.2.2.2 (HD.out.kid (k:=x) (by simp)));clear hx O HV U;have I:=hid (show aE F (.mk 29 ⟨#[]⟩ [x] np)=(decide (x.kind=21)&&F.expr x)by rw[HR.out,dX];simp[iS]);obtain⟨y0,y1,y2,y3,-⟩:=N.out.below hB;by_cases q:x.kind=21
 rotate_left
 ·(have hq:(x.kind==21)=false:=by simpa using q);have D:Hid (aE F (.mk 29 ⟨#[]⟩ [x] np)=false):=hid (by rw[I.out,gP q,jA]);clear q;(go_enter func18,ntmps18);go_wp2_with fail;go_ret;exact⟨by rw[D.out];rfl,hB⟩
 (have hq:(x.kind==21)=true:=by simpa using q);have D:Hid (aE F (.mk 29 ⟨#[]⟩ [x] np)=F.expr x):=hid (by rw[I.out,jK q,jP]);clear q HR I;(go_enter func18,ntmps18);go_wp2_with fail;refine(gd.out _ (N.out.below hB)).mono ?_;rintro e w1⟨rfl,gb⟩;go_wp2_with fail;go_ret;exact⟨by rw[D.out];rfl,au hB gb⟩
theorem Oa(d:Nat)(C:l8 d)(nt:ByteArray)(nl:List Nd)(np:Int)(A:Option Addr)(cp:Nat)(w:World)(hv:aF w (.agg #[.int .i64 33,nt,.slice A nl.length cp,np]) (.mk 33 nt nl np))(hd:df (d+1) (.mk 33 nt nl np)):
  Calls prog 18 #[.agg #[.int .i64 33,nt,.slice A nl.length cp,np]] w fun e w'=>e=.returned (.bool (aE (aa d) (.mk 33 nt nl np)))/\Below w w w':=by
 have HV:=hid hv;have HD:=hid hd;have N:=hd.1.1;have HT:=hid C.typ;have HE:=hid C.expr;have hB:=(aj w #[.int .i64 33,nt,.slice A nl.length cp,np]).1;have O:=(aj w #[.int .i64 33,nt,.slice A nl.length cp,np]).2;clear hv hd C;generalize aa d=F at *;simp only[Nd.kids_mk]at N;have HR:=hid (show aE F (.mk 33 nt nl np)=(decide (nt=(⟨#[]⟩:BA))&&l5 (ck an F.expr) nl)by(have h:aE F (.mk 33 nt nl np)=cE 33 [ck an F.expr] (.mk 33 nt nl np):=by simp[aE]);rw[h,tr];simp;rfl);by_cases h1:nt=⟨#[]⟩
 rotate_left
 ·(have gb:nt.toList.isEmpty=false:=by rw[ao];simpa using h1);have M:Hid (aE F (.mk 33 nt nl np)=false):=hid (by rw[HR.out,gP h1,jA]);clear h1;(go_enter func18,ntmps18);go_wp2_with fail;go_ret;exact⟨by rw[M.out];rfl,hB⟩
 subst h1;by_cases h2:nl.length=1
 rotate_left
 ·(have gb:((nl.length:Int)==1)=false:=by rw[gF];omega);have M:Hid (aE F (.mk 33 ⟨#[]⟩ nl np)=false):=hid (by rw[HR.out,iI _ h2,jL]);clear h2;generalize nl.length=m at *;(go_enter func18,ntmps18);go_wp2_with fail;go_ret;exact⟨by rw[M.out];rfl,hB⟩
 obtain⟨x,rfl⟩:=nu h2;have gg:=hid (dX F.expr x);have U:aF w (.agg #[.int .i64 33,.string ⟨#[]⟩,.slice A 1 cp,.int .i64 np]) (.mk 33 ⟨#[]⟩ [x] np):=HV.out;have hB:Below w w (w.alloc (.cells #[.int .i64 33,.string ⟨#[]⟩,.slice A 1 cp,.int .i64 np] 24)):=hB;have O:aq (w.alloc (.cells #[.int .i64 33,.string ⟨#[]⟩,.slice A 1 cp,.int .i64 np] 24)) w.heap.size 24 #[.int .i64 33,.string ⟨#[]⟩,.slice A 1 cp,.int .i64 np]:=O;obtain⟨bx,ox,A1,c1,rfl,hx⟩:=bC U 0 (by simp);simp only[Nd.kids_mk,gN,jF,gZ]at hx;have D:=hid hx;have ge:=hid (fun w'(h:C4 w' bx ox x A1 c1)=>HE.out _ x w' h.2.2.2.2 (HD.out.kid (k:=x) (by simp)));clear hx U HV h2;have ga:=hid (show aE F (.mk 33 ⟨#[]⟩ [x] np)=(an x||F.expr x)by rw[HR.out,dX];simp[ck]);obtain⟨y0,y1,y2,y3,-⟩:=D.out.below hB;cases q:an x with
 |true=>have M:Hid (aE F (.mk 33 ⟨#[]⟩ [x] np)=true):=hid (by rw[ga.out,q,kP]);(go_enter func18,ntmps18);go_wp2_with fail;refine(eI _ x _ (D.out.below hB).2.2.2.2).mono ?_;rw[q];rintro e w1⟨rfl,I⟩;go_wp2_with fail;go_ret;exact⟨by rw[M.out];rfl,au hB I⟩
 |false=>have M:Hid (aE F (.mk 33 ⟨#[]⟩ [x] np)=F.expr x):=hid (by rw[ga.out,q,ve]);(go_enter func18,ntmps18);go_wp2_with fail;refine(eI _ x _ (D.out.below hB).2.2.2.2).mono ?_;rw[q];rintro e w1⟨rfl,I⟩;have J:=au hB I;clear y0 y1 y2 y3;obtain⟨y0,y1,y2,y3,-⟩:=D.out.below J;go_wp2_with fail;refine(ge.out _ (D.out.below J)).mono ?_;rintro e w2⟨rfl,gd⟩;go_wp2_with fail;go_ret;exact⟨by rw[M.out];rfl,au J gd⟩
theorem Ob(d:Nat)(C:l8 d)(nt:ByteArray)(nl:List Nd)(np:Int)(A:Option Addr)(cp:Nat)(w:World)(M:aF w (.agg #[.int .i64 34,nt,.slice A nl.length cp,np]) (.mk 34 nt nl np))(hd:df (d+1) (.mk 34 nt nl np)):
  Calls prog 18 #[.agg #[.int .i64 34,nt,.slice A nl.length cp,np]] w fun e w'=>e=.returned (.bool (aE (aa d) (.mk 34 nt nl np)))/\Below w w w':=by
 have HV:=hid M;have HD:=hid hd;have D:=hd.1.1;have HT:=hid C.typ;have HE:=hid C.expr;have hB:=(aj w #[.int .i64 34,nt,.slice A nl.length cp,np]).1;have ga:=(aj w #[.int .i64 34,nt,.slice A nl.length cp,np]).2;clear M hd C;generalize aa d=F at *;simp only[Nd.kids_mk]at D;have N:=hid (show aE F (.mk 34 nt nl np)=(decide (nt=(⟨#[]⟩:BA))&&decide (nl.length=0))by(have h:aE F (.mk 34 nt nl np)=cE 34 [] (.mk 34 nt nl np):=by simp[aE]);rw[h];unfold cE;rcases nl with _|⟨x,l⟩<;>simp[a6]<;>rfl);by_cases I:nt=⟨#[]⟩
 rotate_left
 ·(have O:nt.toList.isEmpty=false:=by rw[ao];simpa using I);have J:Hid (aE F (.mk 34 nt nl np)=false):=hid (by rw[N.out,gP I,jA]);clear I;(go_enter func18,ntmps18);go_wp2_with fail;go_ret;exact⟨by rw[J.out];rfl,hB⟩
 subst I;(have U:((nl.length:Int)==0)=decide (nl.length=0):=by rw[kT];simp);have J:=hid (show aE F (.mk 34 ⟨#[]⟩ nl np)=decide (nl.length=0)by rw[N.out];simp);generalize nl.length=m at *;cases q:decide (m=0);all_goals rw[q]at U J;clear q;(go_enter func18,ntmps18);go_wp2_with fail;go_ret;exact⟨by rw[J.out];rfl,hB⟩
theorem Oc(d:Nat)(C:l8 d)(nt:ByteArray)(nl:List Nd)(np:Int)(A:Option Addr)(cp:Nat)(w:World)(M:aF w (.agg #[.int .i64 35,nt,.slice A nl.length cp,np]) (.mk 35 nt nl np))(hd:df (d+1) (.mk 35 nt nl np)):
  Calls prog 18 #[.agg #[.int .i64 35,nt,.slice A nl.length cp,np]] w fun e w'=>e=.returned (.bool (aE (aa d) (.mk 35 nt nl np)))/\Below w w w':=by
 have HV:=hid M;have HD:=hid hd;have D:=hd.1.1;have HT:=hid C.typ;have HE:=hid C.expr;have hB:=(aj w #[.int .i64 35,nt,.slice A nl.length cp,np]).1;have ga:=(aj w #[.int .i64 35,nt,.slice A nl.length cp,np]).2;clear M hd C;generalize aa d=F at *;simp only[Nd.kids_mk]at D;have N:=hid (show aE F (.mk 35 nt nl np)=(decide (nt=(⟨#[]⟩:BA))&&decide (nl.length=0))by(have h:aE F (.mk 35 nt nl np)=cE 35 [] (.mk 35 nt nl np):=by simp[aE]);rw[h];unfold cE;rcases nl with _|⟨x,l⟩<;>simp[a6]<;>rfl);by_cases I:nt=⟨#[]⟩
 rotate_left
 ·(have O:nt.toList.isEmpty=false:=by rw[ao];simpa using I);have J:Hid (aE F (.mk 35 nt nl np)=false):=hid (by rw[N.out,gP I,jA]);clear I;(go_enter func18,ntmps18);go_wp2_with fail;go_ret;exact⟨by rw[J.out];rfl,hB⟩
 subst I;(have U:((nl.length:Int)==0)=decide (nl.length=0):=by rw[kT];simp);have J:=hid (show aE F (.mk 35 ⟨#[]⟩ nl np)=decide (nl.length=0)by rw[N.out];simp);generalize nl.length=m at *;cases q:decide (m=0);all_goals rw[q]at U J;clear q;(go_enter func18,ntmps18);go_wp2_with fail;go_ret;exact⟨by rw[J.out];rfl,hB⟩
def mN(f g h:Nd->Bool):List Nd->Bool
 |[a,b,c]=>f a&&(g b&&h c)
 |_=>false
theorem AE(f g h:Nd->Bool){l:List Nd}(D:l.length≠3):mN f g h l=false:=by
 rcases l with _|⟨x,_|⟨y,_|⟨z,_|⟨u,l⟩⟩⟩⟩
 ·rfl
 ·rfl
 ·rfl
 ·exact absurd rfl D
 ·rfl
theorem Od{l:List Nd}(h:l.length=3):∃x y z,l=[x,y,z]:=by
 rcases l with _|⟨x,_|⟨y,_|⟨z,_|⟨u,l⟩⟩⟩⟩
 ·simp at h
 ·simp at h
 ·simp at h
 ·exact⟨x,y,z,rfl⟩
 ·simp at h
theorem ye(k:Int)(f g h:Nd->Bool)(n:Nd):cE k [f,g,h] n=(decide (n.kind=k)&&(decide (n.text=(⟨#[]⟩:BA))&&mN f g h n.kids)):=by
 unfold cE;congr 2;rcases n.kids with _|⟨x,_|⟨y,_|⟨z,_|⟨u,l⟩⟩⟩⟩
 ·rfl
 ·simp[a6,mN]
 ·simp[a6,mN]
 ·simp[a6,mN]
 ·simp[a6,mN]
theorem DD(d:Nat)(k:Nd):((aa d).block k||(aa d).ifS k)=(decide (k.kind∈([36,30]:List Int))&&(aa d).stmt k):=by
 cases d with
 |zero=>simp[aa]
 |succ d=>
  show(bI (aa d) k||AQ (aa d) k)=(decide (k.kind∈([36,30]:List Int))&&aE (aa d) k);obtain⟨j,t,l,p⟩:=k;by_cases I:j=36
  ·subst I;simp[aE,AQ,ye]
  by_cases D:j=30
  ·subst D;simp[aE,bI]
  ·simp[bI,AQ,ye,I,D]
theorem Oe(d:Nat)(C:l8 d)(nt:ByteArray)(nl:List Nd)(np:Int)(A:Option Addr)(cp:Nat)(w:World)(hv:aF w (.agg #[.int .i64 32,nt,.slice A nl.length cp,np]) (.mk 32 nt nl np))(hd:df (d+1) (.mk 32 nt nl np)):
  Calls prog 18 #[.agg #[.int .i64 32,nt,.slice A nl.length cp,np]] w fun e w'=>e=.returned (.bool (aE (aa d) (.mk 32 nt nl np)))/\Below w w w':=by
 have HV:=hid hv;have HD:=hid hd;have gg:=hd.1.1;have HT:=hid C.typ;have HE:=hid C.expr;have M:=hd.1.2;have gt:=hid C.block;have hB:=(aj w #[.int .i64 32,nt,.slice A nl.length cp,np]).1;have gh:=(aj w #[.int .i64 32,nt,.slice A nl.length cp,np]).2;clear hv hd C;generalize aa d=F at *;simp only[Nd.kids_mk]at gg;simp only[Nd.text_mk]at M;have HR:=hid (show aE F (.mk 32 nt nl np)=(nw F.expr F.block nl&&bR nt)by(have h:aE F (.mk 32 nt nl np)=cE 32 [F.expr,F.block] (aw bR (.mk 32 nt nl np)):=by simp[aE]);rw[h,fg]);by_cases h2:nl.length=2
 rotate_left
 ·(have gz:((nl.length:Int)==2)=false:=by rw[gF];omega);have HX:Hid (aE F (.mk 32 nt nl np)=false):=hid (by rw[HR.out,pT _ _ h2,jA]);clear h2;generalize nl.length=m at *;(go_enter func18,ntmps18);go_wp2_with fail;go_ret;exact⟨by rw[HX.out];rfl,hB⟩
 obtain⟨x,y,rfl⟩:=E6 h2;clear h2;have gd:aF w (.agg #[.int .i64 32,nt,.slice A 2 cp,np]) (.mk 32 nt [x,y] np):=HV.out;have hB:Below w w (w.alloc (.cells #[.int .i64 32,nt,.slice A 2 cp,np] 24)):=hB;have gh:aq (w.alloc (.cells #[.int .i64 32,nt,.slice A 2 cp,np] 24)) w.heap.size 24 #[.int .i64 32,nt,.slice A 2 cp,np]:=gh;obtain⟨bx,ox,A0,c0,rfl,ga⟩:=bC gd 0 (by simp);obtain⟨g0,gu,A1,c1,e,U⟩:=bC gd 1 (by simp);injection e with e;injection e with e1 e2;subst e1 e2;simp only[Nd.kids_mk,gN,kC,jF,gZ,qe]at ga U;have O:=hid ga;have gp:=HD.out.kid (k:=x) (by simp);have gi:=hid U;have gn:=HD.out.kid (k:=y) (by simp);clear gd HV ga U;have N:=hid (fun w'(h:C4 w' bx ox x A0 c0)=>HE.out _ x w' h.2.2.2.2 gp);have gs:=hid (fun w'(h:C4 w' bx (ox+4) y A1 c1)=>gt.out _ y w' h.2.2.2.2 gn);have ge:=hid (show aE F (.mk 32 nt [x,y] np)=(bR nt&&(F.expr x&&F.block y))by rw[HR.out,Bool.and_comm];rfl);cases g1:bR nt with
 |false=>have HX:Hid (aE F (.mk 32 nt [x,y] np)=false):=hid (by rw[ge.out,g1,jA]);(go_enter func18,ntmps18);go_wp2_with fail;refine(pD _ M _).mono ?_;rw[g1];rintro e w1⟨rfl,I⟩;go_wp2_with fail;go_ret;exact⟨by rw[HX.out];rfl,au hB I⟩
 |true=>
  cases g2:F.expr x with
  |false=>have HX:Hid (aE F (.mk 32 nt [x,y] np)=false):=hid (by rw[ge.out,g1,g2];rfl);rw[g2]at N;(go_enter func18,ntmps18);go_wp2_with fail;refine(pD _ M _).mono ?_;rw[g1];rintro e w1⟨rfl,I⟩;have D:=au hB I;obtain⟨gm,gl,gk,gj,-⟩:=O.out.below D;go_wp2_with fail;refine(N.out _ (O.out.below D)).mono ?_;rintro e w2⟨rfl,gb⟩;have J:=au D gb;go_wp2_with fail;go_ret;exact⟨by rw[HX.out];rfl,J⟩
  |true=>have HX:Hid (aE F (.mk 32 nt [x,y] np)=F.block y):=hid (by rw[ge.out,g1,g2];rfl);rw[g2]at N;(go_enter func18,ntmps18);go_wp2_with fail;refine(pD _ M _).mono ?_;rw[g1];rintro e w1⟨rfl,I⟩;have D:=au hB I;obtain⟨gm,gl,gk,gj,-⟩:=O.out.below D;go_wp2_with fail;refine(N.out _ (O.out.below D)).mono ?_;rintro e w2⟨rfl,gb⟩;have J:=au D gb;obtain⟨gy,gx,gw,gv,-⟩:=gi.out.below J;go_wp2_with fail;refine(gs.out _ (gi.out.below J)).mono ?_;rintro e w3⟨rfl,gq⟩;have gr:=au J gq;go_wp2_with fail;go_ret;exact⟨by rw[HX.out];rfl,gr⟩
theorem Of(d:Nat)(C:l8 d)(nt:ByteArray)(nl:List Nd)(np:Int)(A:Option Addr)(cp:Nat)(w:World)(hv:aF w (.agg #[.int .i64 30,nt,.slice A nl.length cp,np]) (.mk 30 nt nl np))(hd:df (d+1) (.mk 30 nt nl np)):
  Calls prog 18 #[.agg #[.int .i64 30,nt,.slice A nl.length cp,np]] w fun e w'=>e=.returned (.bool (aE (aa d) (.mk 30 nt nl np)))/\Below w w w':=by
 have HV:=hid hv;have HD:=hid hd;have gv:=hd.1.1;have HT:=hid C.typ;have HE:=hid C.expr;have he:=hid C.block;have hc:=hid (AD d C.stmt);have hf:=hid (DD d);have hB:=(aj w #[.int .i64 30,nt,.slice A nl.length cp,np]).1;have gw:=(aj w #[.int .i64 30,nt,.slice A nl.length cp,np]).2;clear hv hd C;generalize aa d=F at *;simp only[Nd.kids_mk]at gv;have HR:=hid (show aE F (.mk 30 nt nl np)=(decide (nt=(⟨#[]⟩:BA))&&mN F.expr F.block (ck (ck an F.block) F.ifS) nl)by(have h:aE F (.mk 30 nt nl np)=cE 30 [F.expr,F.block,ck (ck an F.block) F.ifS] (.mk 30 nt nl np):=by simp[aE,AQ]);rw[h,ye];simp;rfl);by_cases h1:nt=⟨#[]⟩
 rotate_left
 ·(have g5:nt.toList.isEmpty=false:=by rw[ao];simpa using h1);have HX:Hid (aE F (.mk 30 nt nl np)=false):=hid (by rw[HR.out,gP h1,jA]);clear h1;(go_enter func18,ntmps18);go_wp2_with fail;go_ret;exact⟨by rw[HX.out];rfl,hB⟩
 subst h1;by_cases h2:nl.length=3
 rotate_left
 ·(have g5:((nl.length:Int)==3)=false:=by rw[gF];omega);have HX:Hid (aE F (.mk 30 ⟨#[]⟩ nl np)=false):=hid (by rw[HR.out,AE _ _ _ h2,jL]);clear h2;generalize nl.length=m at *;(go_enter func18,ntmps18);go_wp2_with fail;go_ret;exact⟨by rw[HX.out];rfl,hB⟩
 obtain⟨x,y,z,rfl⟩:=Od h2;clear h2;have ge:aF w (.agg #[.int .i64 30,.string ⟨#[]⟩,.slice A 3 cp,.int .i64 np]) (.mk 30 ⟨#[]⟩ [x,y,z] np):=HV.out;have hB:Below w w (w.alloc (.cells #[.int .i64 30,.string ⟨#[]⟩,.slice A 3 cp,.int .i64 np] 24)):=hB;have gw:aq (w.alloc (.cells #[.int .i64 30,.string ⟨#[]⟩,.slice A 3 cp,.int .i64 np] 24)) w.heap.size 24 #[.int .i64 30,.string ⟨#[]⟩,.slice A 3 cp,.int .i64 np]:=gw;obtain⟨bx,ox,A0,c0,rfl,gp⟩:=bC ge 0 (by simp);obtain⟨hj,hh,A1,c1,e,gn⟩:=bC ge 1 (by simp);injection e with e;injection e with e1 e2;subst e1 e2;obtain⟨hi,hg,A2,c2,e,gm⟩:=bC ge 2 (by simp);injection e with e;injection e with e1 e2;subst e1 e2;simp only[Nd.kids_mk,gN,kC,jF,gZ,qe]at gp gn gm;have ga:=hid gp;have g8:=HD.out.kid (k:=x) (by simp);have U:=hid gn;have g7:=HD.out.kid (k:=y) (by simp);have O:=hid gm;have g6:=HD.out.kid (k:=z) (by simp);clear ge HV gp gn gm;have N:=hid (fun w'(h:C4 w' bx ox x A0 c0)=>HE.out _ x w' h.2.2.2.2 g8);have gd:=hid (fun w'(h:C4 w' bx (ox+4) y A1 c1)=>he.out _ y w' h.2.2.2.2 g7);have gh:=hid (fun w'(h:C4 w' bx (ox+2*4) z A2 c2)=>eI _ z w' h.2.2.2.2);have ha:=hid (fun w'(h:C4 w' bx (ox+2*4) z A2 c2)=>hc.out _ z (w'.alloc (.cells #[.int .i64 36,.int .i64 30] 3)) (af.below h.2.2.2.2 ((gH _ _).alloc (gC _) _)) g6 [36,30] w'.heap.size 2 (oL.of_blk (aq.new w' 3 #[.int .i64 36,.int .i64 30])) (by decide));have gg:=hid (show aE F (.mk 30 ⟨#[]⟩ [x,y,z] np)=(F.expr x&&(F.block y&&(an z||(decide (z.kind∈([36,30]:List Int))&&F.stmt z))))by rw[HR.out,<-hf.out z];simp[mN,ck,Bool.or_assoc]);generalize(decide (z.kind∈([36,30]:List Int))&&F.stmt z)=rz at *;cases g2:F.expr x with
 |false=>have HX:Hid (aE F (.mk 30 ⟨#[]⟩ [x,y,z] np)=false):=hid (by rw[gg.out,g2];rfl);rw[g2]at N;obtain⟨g1,g0,gz,gy,-⟩:=ga.out.below hB;(go_enter func18,ntmps18);go_wp2_with fail;refine(N.out _ (ga.out.below hB)).mono ?_;rintro e w1⟨rfl,J⟩;have D:=au hB J;go_wp2_with fail;go_ret;exact⟨by rw[HX.out];rfl,D⟩
 | true=>
  rw[g2]at N;obtain⟨g1,g0,gz,gy,-⟩:=ga.out.below hB;cases g3:F.block y with
  |false=>have HX:Hid (aE F (.mk 30 ⟨#[]⟩ [x,y,z] np)=false):=hid (by rw[gg.out,g2,g3];rfl);rw[g3]at gd;(go_enter func18,ntmps18);go_wp2_with fail;refine(N.out _ (ga.out.below hB)).mono ?_;rintro e w1⟨rfl,J⟩;have D:=au hB J;obtain⟨gu,gt,gs,gr,-⟩:=U.out.below D;go_wp2_with fail;refine(gd.out _ (U.out.below D)).mono ?_;rintro e w2⟨rfl,gb⟩;have I:=au D gb;go_wp2_with fail;go_ret;exact⟨by rw[HX.out];rfl,I⟩
  |true=>
   rw[g3]at gd;cases g4:an z with
   |true=>have HX:Hid (aE F (.mk 30 ⟨#[]⟩ [x,y,z] np)=true):=hid (by rw[gg.out,g2,g3,g4];rfl);rw[g4]at gh;(go_enter func18,ntmps18);go_wp2_with fail;refine(N.out _ (ga.out.below hB)).mono ?_;rintro e w1⟨rfl,J⟩;have D:=au hB J;obtain⟨gu,gt,gs,gr,-⟩:=U.out.below D;go_wp2_with fail;refine(gd.out _ (U.out.below D)).mono ?_;rintro e w2⟨rfl,gb⟩;have I:=au D gb;obtain⟨gl,gk,gj,gi,-⟩:=O.out.below I;go_wp2_with fail;refine(gh.out _ (O.out.below I)).mono ?_;rintro e w3⟨rfl,gq⟩;have M:=au I gq;go_wp2_with fail;go_ret;exact⟨by rw[HX.out];rfl,M⟩
   |false=>have HX:Hid (aE F (.mk 30 ⟨#[]⟩ [x,y,z] np)=rz):=hid (by rw[gg.out,g2,g3,g4];rfl);rw[g4]at gh;(go_enter func18,ntmps18);go_wp2_with fail;refine(N.out _ (ga.out.below hB)).mono ?_;rintro e w1⟨rfl,J⟩;have D:=au hB J;obtain⟨gu,gt,gs,gr,-⟩:=U.out.below D;go_wp2_with fail;refine(gd.out _ (U.out.below D)).mono ?_;rintro e w2⟨rfl,gb⟩;have I:=au D gb;obtain⟨gl,gk,gj,gi,-⟩:=O.out.below I;go_wp2_with fail;refine(gh.out _ (O.out.below I)).mono ?_;rintro e w3⟨rfl,gq⟩;have M:=au I gq;clear gl gk gj gi;obtain⟨gl,gk,gj,gi,-⟩:=O.out.below M;go_wp2_with fail;refine(ha.out _ (O.out.below M)).mono ?_;rintro e w4⟨rfl,g9⟩;have gx:=M.alloc M.size (.cells #[.int .i64 36,.int .i64 30] 3);go_wp2_with fail;go_ret;exact⟨by rw[HX.out];rfl,au gx g9⟩
end
end Go.Proofs.YteialcjaiocjdaaGreatDoor
