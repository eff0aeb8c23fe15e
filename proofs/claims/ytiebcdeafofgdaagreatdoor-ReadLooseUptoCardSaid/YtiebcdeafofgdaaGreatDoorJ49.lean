/-
  Parts of the proof: Ustmt1 Ustmt2. By an AI agent.
-/
import Derived.Test.YtiebcdeafofgdaaGreatDoorJ48
open Go.Proofs.Tryz
set_option maxRecDepth 100000
set_option maxHeartbeats 8000000
namespace Go.Proofs.YtiebcdeafofgdaaGreatDoor
section
open Go.RowKit Go.Lib Go.Proofs
attribute [local go_sem ↓] Go.wp_at_zero Go.wp_at_succ
theorem Rf(d:Nat)(C:lN d)(nt:ByteArray)(nl:List Nd)(np:Int)(A:Option Addr)(cp:Nat)(w:World)(N:aF w (.agg #[.int .i64 5,nt,.slice A nl.length cp,np]) (.mk 5 nt nl np))(hd:dK (d+1) (.mk 5 nt nl np)):
  Calls prog 27 #[.agg #[.int .i64 5,nt,.slice A nl.length cp,np]] w fun e w'=>e=.returned (.bool (aB (aa d) (.mk 5 nt nl np)))/\Below w w w':=by have U:=hid N;have h:=hid hd;have D:=hd.1.1;have HT:=hid C.typ;have HE:=hid C.expr;have M:=hid (NZ d C);have hB:=(aj w #[.int .i64 5,nt,.slice A nl.length cp,np]).1;have J:=(aj w #[.int .i64 5,nt,.slice A nl.length cp,np]).2;clear N hd C;generalize aa d=F at *;simp only[Nd.kids_mk]at D;have O:=hid (show aB F (.mk 5 nt nl np)=iK F (.mk 5 nt nl np)by simp[aB]);obtain⟨x0,x1,x2,x3,-,-,-,-⟩:=ab J;(go_enter func27,ntmps27);go_wp2_with fail;refine(M.out _ (.mk 5 nt nl np) _ (af.below U.out hB) h.out).mono ?_;rintro e w1⟨rfl,I⟩;go_wp2_with fail;go_ret;exact⟨by rw[O.out];rfl,aD hB I⟩
theorem N0(d:Nat)(C:lN d)(nt:ByteArray)(nl:List Nd)(np:Int)(A:Option Addr)(cp:Nat)(w:World)(hv:aF w (.agg #[.int .i64 26,nt,.slice A nl.length cp,np]) (.mk 26 nt nl np))(hd:dK (d+1) (.mk 26 nt nl np)):
  Calls prog 27 #[.agg #[.int .i64 26,nt,.slice A nl.length cp,np]] w fun e w'=>e=.returned (.bool (aB (aa d) (.mk 26 nt nl np)))/\Below w w w':=by
 have HV:=hid hv;have HD:=hid hd;have J:=hd.1.1;have HT:=hid C.typ;have HE:=hid C.expr;have hB:=(aj w #[.int .i64 26,nt,.slice A nl.length cp,np]).1;have M:=(aj w #[.int .i64 26,nt,.slice A nl.length cp,np]).2;clear hv hd C;generalize aa d=F at *;simp only[Nd.kids_mk]at J;have HR:=hid (show aB F (.mk 26 nt nl np)=(ov F.expr nl&&bY nt)from(by simp[aB,du]:aB F (.mk 26 nt nl np)=cA 26 [F.expr] (au bY (.mk 26 nt nl np))).trans (mR _ _ _ _));by_cases h2:nl.length=1
 rotate_left
 ·(have gd:((nl.length:Int)==1)=false:=by rw[gC];omega);have O:Hid (aB F (.mk 26 nt nl np)=false):=hid (by rw[HR.out,ow _ h2,jG]);clear h2;generalize nl.length=m at *;(go_enter func27,ntmps27);go_wp2_with fail;go_ret;exact⟨by rw[O.out];rfl,hB⟩
 obtain⟨x,rfl⟩:=rC h2;have ge:=hid (eS F.expr x);have U:aF w (.agg #[.int .i64 26,nt,.slice A 1 cp,np]) (.mk 26 nt [x] np):=HV.out;have hB:Below w w (w.alloc (.cells #[.int .i64 26,nt,.slice A 1 cp,np] 24)):=hB;have M:an (w.alloc (.cells #[.int .i64 26,nt,.slice A 1 cp,np] 24)) w.heap.size 24 #[.int .i64 26,nt,.slice A 1 cp,np]:=M;obtain⟨bx,ox,A1,c1,rfl,hx⟩:=cE U 0 (by simp);simp only[Nd.kids_mk,gT,jK,jD]at hx;have N:=hid hx;have gb:=hid (fun w'(h:C4 w' bx ox x A1 c1)=>HE.out _ x w' h.2.2.2.2 (HD.out.kid (k:=x) (by simp)));clear hx U HV h2;cases q:bY nt with
 |false=>have O:Hid (aB F (.mk 26 nt [x] np)=false):=hid (by rw[HR.out,q,jU]);(go_enter func27,ntmps27);go_wp2_with fail;refine(om _ _).mono ?_;rw[q];rintro e w1⟨rfl,D⟩;go_wp2_with fail;go_ret;exact⟨by rw[O.out];rfl,aD hB D⟩
 |true=>have O:Hid (aB F (.mk 26 nt [x] np)=F.expr x):=hid (by rw[HR.out,q,vk,eS]);(go_enter func27,ntmps27);go_wp2_with fail;refine(om _ _).mono ?_;rw[q];rintro e w1⟨rfl,D⟩;have I:=aD hB D;obtain⟨y0,y1,y2,y3,-⟩:=N.out.below I;go_wp2_with fail;refine(gb.out _ (N.out.below I)).mono ?_;rintro e w2⟨rfl,ga⟩;go_wp2_with fail;go_ret;exact⟨by rw[O.out];rfl,aD I ga⟩
theorem N1(d:Nat)(C:lN d)(nt:ByteArray)(nl:List Nd)(np:Int)(A:Option Addr)(cp:Nat)(w:World)(hv:aF w (.agg #[.int .i64 27,nt,.slice A nl.length cp,np]) (.mk 27 nt nl np))(hd:dK (d+1) (.mk 27 nt nl np)):
  Calls prog 27 #[.agg #[.int .i64 27,nt,.slice A nl.length cp,np]] w fun e w'=>e=.returned (.bool (aB (aa d) (.mk 27 nt nl np)))/\Below w w w':=by
 have HV:=hid hv;have HD:=hid hd;have D:=hd.1.1;have HT:=hid C.typ;have HE:=hid C.expr;have I:=hid (oy d C.expr);have hB:=(aj w #[.int .i64 27,nt,.slice A nl.length cp,np]).1;have gb:=(aj w #[.int .i64 27,nt,.slice A nl.length cp,np]).2;clear hv hd C;generalize aa d=F at *;simp only[Nd.kids_mk]at D;have U:=hid (show aB F (.mk 27 nt nl np)=(decide (nt=(⟨#[]⟩:BA))&&(decide (nl.length=2)&&nl.all F.expr))by(have h:aB F (.mk 27 nt nl np)=cA 27 [F.expr,F.expr] (.mk 27 nt nl np):=by simp[aB,fl]);rw[h,pl,FX];simp;rfl);by_cases O:nt=⟨#[]⟩
 rotate_left
 ·(have J:nt.toList.isEmpty=false:=by rw[aq];simpa using O);have M:Hid (aB F (.mk 27 nt nl np)=false):=hid (by rw[U.out,gM O,jG]);clear O;(go_enter func27,ntmps27);go_wp2_with fail;go_ret;exact⟨by rw[M.out];rfl,hB⟩
 subst O;have I:=hid (I.out A cp nl _ (af.kidsV (af.below HV.out hB)) (fun n hn=>HD.out.kid hn) D);by_cases N:nl.length=2
 rotate_left
 ·(have J:((nl.length:Int)==2)=false:=by rw[gC];omega);have M:Hid (aB F (.mk 27 ⟨#[]⟩ nl np)=false):=hid (by rw[U.out,gM N,jG,jU]);clear N;generalize nl.length=m at *;(go_enter func27,ntmps27);go_wp2_with fail;go_ret;exact⟨by rw[M.out];rfl,hB⟩
 (have J:((nl.length:Int)==2)=true:=by rw[kF];omega);have M:Hid (aB F (.mk 27 ⟨#[]⟩ nl np)=nl.all F.expr):=hid (by rw[U.out,jO N];simp);clear N U;generalize nl.all F.expr=res at *;generalize nl.length=m at *;(go_enter func27,ntmps27);go_wp2_with fail;refine(I.out).mono ?_;rintro e w1⟨rfl,ga⟩;go_wp2_with fail;go_ret;exact⟨by rw[M.out];rfl,aD hB ga⟩
theorem N2(d:Nat)(C:lN d)(nt:ByteArray)(nl:List Nd)(np:Int)(A:Option Addr)(cp:Nat)(w:World)(hv:aF w (.agg #[.int .i64 28,nt,.slice A nl.length cp,np]) (.mk 28 nt nl np))(hd:dK (d+1) (.mk 28 nt nl np)):
  Calls prog 27 #[.agg #[.int .i64 28,nt,.slice A nl.length cp,np]] w fun e w'=>e=.returned (.bool (aB (aa d) (.mk 28 nt nl np)))/\Below w w w':=by
 have HV:=hid hv;have HD:=hid hd;have D:=hd.1.1;have HT:=hid C.typ;have HE:=hid C.expr;have hB:=(aj w #[.int .i64 28,nt,.slice A nl.length cp,np]).1;have I:=(aj w #[.int .i64 28,nt,.slice A nl.length cp,np]).2;clear hv hd C;generalize aa d=F at *;simp only[Nd.kids_mk]at D;have U:=hid (show aB F (.mk 28 nt nl np)=(ov F.expr nl&&f8 nt)from(by simp[aB,fk]:aB F (.mk 28 nt nl np)=cA 28 [F.expr] (au f8 (.mk 28 nt nl np))).trans (mR _ _ _ _));by_cases O:nl.length=1
 rotate_left
 ·(have gd:((nl.length:Int)==1)=false:=by rw[gC];omega);have M:Hid (aB F (.mk 28 nt nl np)=false):=hid (by rw[U.out,ow _ O,jG]);clear O;generalize nl.length=m at *;(go_enter func27,ntmps27);go_wp2_with fail;go_ret;exact⟨by rw[M.out];rfl,hB⟩
 obtain⟨x,rfl⟩:=rC O;have ge:=hid (eS F.expr x);have N:aF w (.agg #[.int .i64 28,nt,.slice A 1 cp,np]) (.mk 28 nt [x] np):=HV.out;have hB:Below w w (w.alloc (.cells #[.int .i64 28,nt,.slice A 1 cp,np] 24)):=hB;have I:an (w.alloc (.cells #[.int .i64 28,nt,.slice A 1 cp,np] 24)) w.heap.size 24 #[.int .i64 28,nt,.slice A 1 cp,np]:=I;obtain⟨bx,ox,A1,c1,rfl,hx⟩:=cE N 0 (by simp);simp only[Nd.kids_mk,gT,jK,jD]at hx;have J:=hid hx;have gb:=hid (fun w'(h:C4 w' bx ox x A1 c1)=>HE.out _ x w' h.2.2.2.2 (HD.out.kid (k:=x) (by simp)));clear hx N HV O;cases q:f8 nt with
 |false=>(have e1:(nt.toList==[43,43])=false:=by unfold f8 at q;rw[<-ck nt [43,43]];exact(Bool.or_eq_false_iff.1 q).1);(have e2:(nt.toList==[45,45])=false:=by unfold f8 at q;rw[<-ck nt [45,45]];exact(Bool.or_eq_false_iff.1 q).2);have M:Hid (aB F (.mk 28 nt [x] np)=false):=hid (by rw[U.out,q,jU]);clear q;(go_enter func27,ntmps27);go_wp2_with fail;go_ret;exact⟨by rw[M.out];rfl,hB⟩
 |true=>have M:Hid (aB F (.mk 28 nt [x] np)=F.expr x):=hid (by rw[U.out,q,vk,eS]);(have q':nt=⟨#[43,43]⟩\/nt=⟨#[45,45]⟩:=by unfold f8 at q;simpa using q);obtain⟨y0,y1,y2,y3,-⟩:=J.out.below hB;clear q U;rcases q' with rfl|rfl;all_goals(go_enter func27,ntmps27);go_wp2_with fail;refine(gb.out _ (J.out.below hB)).mono ?_;rintro e w1⟨rfl,ga⟩;go_wp2_with fail;go_ret;exact⟨by rw[M.out];rfl,aD hB ga⟩
theorem N3(d:Nat)(C:lN d)(nt:ByteArray)(nl:List Nd)(np:Int)(A:Option Addr)(cp:Nat)(w:World)(hv:aF w (.agg #[.int .i64 29,nt,.slice A nl.length cp,np]) (.mk 29 nt nl np))(hd:dK (d+1) (.mk 29 nt nl np)):
  Calls prog 27 #[.agg #[.int .i64 29,nt,.slice A nl.length cp,np]] w fun e w'=>e=.returned (.bool (aB (aa d) (.mk 29 nt nl np)))/\Below w w w':=by
 have HV:=hid hv;have HD:=hid hd;have J:=hd.1.1;have HT:=hid C.typ;have HE:=hid C.expr;have hB:=(aj w #[.int .i64 29,nt,.slice A nl.length cp,np]).1;have M:=(aj w #[.int .i64 29,nt,.slice A nl.length cp,np]).2;clear hv hd C;generalize aa d=F at *;simp only[Nd.kids_mk]at J;have HR:=hid (show aB F (.mk 29 nt nl np)=(decide (nt=(⟨#[]⟩:BA))&&ov (iw F) nl)by(have h:aB F (.mk 29 nt nl np)=cA 29 [iw F] (.mk 29 nt nl np):=by simp[aB,eU]);rw[h,th];simp;rfl);by_cases h1:nt=⟨#[]⟩
 rotate_left
 ·(have ga:nt.toList.isEmpty=false:=by rw[aq];simpa using h1);have D:Hid (aB F (.mk 29 nt nl np)=false):=hid (by rw[HR.out,gM h1,jG]);clear h1;(go_enter func27,ntmps27);go_wp2_with fail;go_ret;exact⟨by rw[D.out];rfl,hB⟩
 subst h1;by_cases U:nl.length=1
 rotate_left
 ·(have ga:((nl.length:Int)==1)=false:=by rw[gC];omega);have D:Hid (aB F (.mk 29 ⟨#[]⟩ nl np)=false):=hid (by rw[HR.out,ow _ U,jU]);clear U;generalize nl.length=m at *;(go_enter func27,ntmps27);go_wp2_with fail;go_ret;exact⟨by rw[D.out];rfl,hB⟩
 obtain⟨x,rfl⟩:=rC U;have ge:=hid (eS F.expr x);have O:aF w (.agg #[.int .i64 29,.string ⟨#[]⟩,.slice A 1 cp,.int .i64 np]) (.mk 29 ⟨#[]⟩ [x] np):=HV.out;have hB:Below w w (w.alloc (.cells #[.int .i64 29,.string ⟨#[]⟩,.slice A 1 cp,.int .i64 np] 24)):=hB;have M:an (w.alloc (.cells #[.int .i64 29,.string ⟨#[]⟩,.slice A 1 cp,.int .i64 np] 24)) w.heap.size 24 #[.int .i64 29,.string ⟨#[]⟩,.slice A 1 cp,.int .i64 np]:=M;obtain⟨bx,ox,A1,c1,rfl,hx⟩:=cE O 0 (by simp);simp only[Nd.kids_mk,gT,jK,jD]at hx;have N:=hid hx;have gd:=hid (fun w'(h:C4 w' bx ox x A1 c1)=>HE.out _ x w' h.2.2.2.2 (HD.out.kid (k:=x) (by simp)));clear hx O HV U;have I:=hid (show aB F (.mk 29 ⟨#[]⟩ [x] np)=(decide (x.kind=21)&&F.expr x)by rw[HR.out,eS];simp[iw]);obtain⟨y0,y1,y2,y3,-⟩:=N.out.below hB;by_cases q:x.kind=21
 rotate_left
 ·(have hq:(x.kind==21)=false:=by simpa using q);have D:Hid (aB F (.mk 29 ⟨#[]⟩ [x] np)=false):=hid (by rw[I.out,gM q,jG]);clear q;(go_enter func27,ntmps27);go_wp2_with fail;go_ret;exact⟨by rw[D.out];rfl,hB⟩
 (have hq:(x.kind==21)=true:=by simpa using q);have D:Hid (aB F (.mk 29 ⟨#[]⟩ [x] np)=F.expr x):=hid (by rw[I.out,jO q,kK]);clear q HR I;(go_enter func27,ntmps27);go_wp2_with fail;refine(gd.out _ (N.out.below hB)).mono ?_;rintro e w1⟨rfl,gb⟩;go_wp2_with fail;go_ret;exact⟨by rw[D.out];rfl,aD hB gb⟩
theorem N4(d:Nat)(C:lN d)(nt:ByteArray)(nl:List Nd)(np:Int)(A:Option Addr)(cp:Nat)(w:World)(hv:aF w (.agg #[.int .i64 33,nt,.slice A nl.length cp,np]) (.mk 33 nt nl np))(hd:dK (d+1) (.mk 33 nt nl np)):
  Calls prog 27 #[.agg #[.int .i64 33,nt,.slice A nl.length cp,np]] w fun e w'=>e=.returned (.bool (aB (aa d) (.mk 33 nt nl np)))/\Below w w w':=by
 have HV:=hid hv;have HD:=hid hd;have N:=hd.1.1;have HT:=hid C.typ;have HE:=hid C.expr;have hB:=(aj w #[.int .i64 33,nt,.slice A nl.length cp,np]).1;have O:=(aj w #[.int .i64 33,nt,.slice A nl.length cp,np]).2;clear hv hd C;generalize aa d=F at *;simp only[Nd.kids_mk]at N;have HR:=hid (show aB F (.mk 33 nt nl np)=(decide (nt=(⟨#[]⟩:BA))&&ov (cB ah F.expr) nl)by(have h:aB F (.mk 33 nt nl np)=cA 33 [cB ah F.expr] (.mk 33 nt nl np):=by simp[aB]);rw[h,th];simp;rfl);by_cases h1:nt=⟨#[]⟩
 rotate_left
 ·(have gb:nt.toList.isEmpty=false:=by rw[aq];simpa using h1);have M:Hid (aB F (.mk 33 nt nl np)=false):=hid (by rw[HR.out,gM h1,jG]);clear h1;(go_enter func27,ntmps27);go_wp2_with fail;go_ret;exact⟨by rw[M.out];rfl,hB⟩
 subst h1;by_cases h2:nl.length=1
 rotate_left
 ·(have gb:((nl.length:Int)==1)=false:=by rw[gC];omega);have M:Hid (aB F (.mk 33 ⟨#[]⟩ nl np)=false):=hid (by rw[HR.out,ow _ h2,jU]);clear h2;generalize nl.length=m at *;(go_enter func27,ntmps27);go_wp2_with fail;go_ret;exact⟨by rw[M.out];rfl,hB⟩
 obtain⟨x,rfl⟩:=rC h2;have gg:=hid (eS F.expr x);have U:aF w (.agg #[.int .i64 33,.string ⟨#[]⟩,.slice A 1 cp,.int .i64 np]) (.mk 33 ⟨#[]⟩ [x] np):=HV.out;have hB:Below w w (w.alloc (.cells #[.int .i64 33,.string ⟨#[]⟩,.slice A 1 cp,.int .i64 np] 24)):=hB;have O:an (w.alloc (.cells #[.int .i64 33,.string ⟨#[]⟩,.slice A 1 cp,.int .i64 np] 24)) w.heap.size 24 #[.int .i64 33,.string ⟨#[]⟩,.slice A 1 cp,.int .i64 np]:=O;obtain⟨bx,ox,A1,c1,rfl,hx⟩:=cE U 0 (by simp);simp only[Nd.kids_mk,gT,jK,jD]at hx;have D:=hid hx;have ge:=hid (fun w'(h:C4 w' bx ox x A1 c1)=>HE.out _ x w' h.2.2.2.2 (HD.out.kid (k:=x) (by simp)));clear hx U HV h2;have ga:=hid (show aB F (.mk 33 ⟨#[]⟩ [x] np)=(ah x||F.expr x)by rw[HR.out,eS];simp[cB]);obtain⟨y0,y1,y2,y3,-⟩:=D.out.below hB;cases q:ah x with
 |true=>have M:Hid (aB F (.mk 33 ⟨#[]⟩ [x] np)=true):=hid (by rw[ga.out,q,kP]);(go_enter func27,ntmps27);go_wp2_with fail;refine(ev _ x _ (D.out.below hB).2.2.2.2).mono ?_;rw[q];rintro e w1⟨rfl,I⟩;go_wp2_with fail;go_ret;exact⟨by rw[M.out];rfl,aD hB I⟩
 |false=>have M:Hid (aB F (.mk 33 ⟨#[]⟩ [x] np)=F.expr x):=hid (by rw[ga.out,q,vi]);(go_enter func27,ntmps27);go_wp2_with fail;refine(ev _ x _ (D.out.below hB).2.2.2.2).mono ?_;rw[q];rintro e w1⟨rfl,I⟩;have J:=aD hB I;clear y0 y1 y2 y3;obtain⟨y0,y1,y2,y3,-⟩:=D.out.below J;go_wp2_with fail;refine(ge.out _ (D.out.below J)).mono ?_;rintro e w2⟨rfl,gd⟩;go_wp2_with fail;go_ret;exact⟨by rw[M.out];rfl,aD J gd⟩
theorem N5(d:Nat)(C:lN d)(nt:ByteArray)(nl:List Nd)(np:Int)(A:Option Addr)(cp:Nat)(w:World)(M:aF w (.agg #[.int .i64 34,nt,.slice A nl.length cp,np]) (.mk 34 nt nl np))(hd:dK (d+1) (.mk 34 nt nl np)):
  Calls prog 27 #[.agg #[.int .i64 34,nt,.slice A nl.length cp,np]] w fun e w'=>e=.returned (.bool (aB (aa d) (.mk 34 nt nl np)))/\Below w w w':=by
 have HV:=hid M;have HD:=hid hd;have D:=hd.1.1;have HT:=hid C.typ;have HE:=hid C.expr;have hB:=(aj w #[.int .i64 34,nt,.slice A nl.length cp,np]).1;have ga:=(aj w #[.int .i64 34,nt,.slice A nl.length cp,np]).2;clear M hd C;generalize aa d=F at *;simp only[Nd.kids_mk]at D;have N:=hid (show aB F (.mk 34 nt nl np)=(decide (nt=(⟨#[]⟩:BA))&&decide (nl.length=0))by(have h:aB F (.mk 34 nt nl np)=cA 34 [] (.mk 34 nt nl np):=by simp[aB]);rw[h];unfold cA;rcases nl with _|⟨x,l⟩<;>simp[aY]<;>rfl);by_cases I:nt=⟨#[]⟩
 rotate_left
 ·(have O:nt.toList.isEmpty=false:=by rw[aq];simpa using I);have J:Hid (aB F (.mk 34 nt nl np)=false):=hid (by rw[N.out,gM I,jG]);clear I;(go_enter func27,ntmps27);go_wp2_with fail;go_ret;exact⟨by rw[J.out];rfl,hB⟩
 subst I;(have U:((nl.length:Int)==0)=decide (nl.length=0):=by rw[kQ];simp);have J:=hid (show aB F (.mk 34 ⟨#[]⟩ nl np)=decide (nl.length=0)by rw[N.out];simp);generalize nl.length=m at *;cases q:decide (m=0);all_goals rw[q]at U J;clear q;(go_enter func27,ntmps27);go_wp2_with fail;go_ret;exact⟨by rw[J.out];rfl,hB⟩
theorem N6(d:Nat)(C:lN d)(nt:ByteArray)(nl:List Nd)(np:Int)(A:Option Addr)(cp:Nat)(w:World)(M:aF w (.agg #[.int .i64 35,nt,.slice A nl.length cp,np]) (.mk 35 nt nl np))(hd:dK (d+1) (.mk 35 nt nl np)):
  Calls prog 27 #[.agg #[.int .i64 35,nt,.slice A nl.length cp,np]] w fun e w'=>e=.returned (.bool (aB (aa d) (.mk 35 nt nl np)))/\Below w w w':=by
 have HV:=hid M;have HD:=hid hd;have D:=hd.1.1;have HT:=hid C.typ;have HE:=hid C.expr;have hB:=(aj w #[.int .i64 35,nt,.slice A nl.length cp,np]).1;have ga:=(aj w #[.int .i64 35,nt,.slice A nl.length cp,np]).2;clear M hd C;generalize aa d=F at *;simp only[Nd.kids_mk]at D;have N:=hid (show aB F (.mk 35 nt nl np)=(decide (nt=(⟨#[]⟩:BA))&&decide (nl.length=0))by(have h:aB F (.mk 35 nt nl np)=cA 35 [] (.mk 35 nt nl np):=by simp[aB]);rw[h];unfold cA;rcases nl with _|⟨x,l⟩<;>simp[aY]<;>rfl);by_cases I:nt=⟨#[]⟩
 rotate_left
 ·(have O:nt.toList.isEmpty=false:=by rw[aq];simpa using I);have J:Hid (aB F (.mk 35 nt nl np)=false):=hid (by rw[N.out,gM I,jG]);clear I;(go_enter func27,ntmps27);go_wp2_with fail;go_ret;exact⟨by rw[J.out];rfl,hB⟩
 subst I;(have U:((nl.length:Int)==0)=decide (nl.length=0):=by rw[kQ];simp);have J:=hid (show aB F (.mk 35 ⟨#[]⟩ nl np)=decide (nl.length=0)by rw[N.out];simp);generalize nl.length=m at *;cases q:decide (m=0);all_goals rw[q]at U J;clear q;(go_enter func27,ntmps27);go_wp2_with fail;go_ret;exact⟨by rw[J.out];rfl,hB⟩
def pn(f g h:Nd->Bool):List Nd->Bool
 |[a,b,c]=>f a&&(g b&&h c)
 |_=>false
theorem Iu(f g h:Nd->Bool){l:List Nd}(D:l.length≠3):pn f g h l=false:=by
 rcases l with _|⟨x,_|⟨y,_|⟨z,_|⟨u,l⟩⟩⟩⟩
 ·rfl
 ·rfl
 ·rfl
 ·exact absurd rfl D
 ·rfl
theorem N7{l:List Nd}(h:l.length=3):∃x y z,l=[x,y,z]:=by
 rcases l with _|⟨x,_|⟨y,_|⟨z,_|⟨u,l⟩⟩⟩⟩
 ·simp at h
 ·simp at h
 ·simp at h
 ·exact⟨x,y,z,rfl⟩
 ·simp at h
theorem EL(k:Int)(f g h:Nd->Bool)(n:Nd):cA k [f,g,h] n=(decide (n.kind=k)&&(decide (n.text=(⟨#[]⟩:BA))&&pn f g h n.kids)):=by
 unfold cA;congr 2;rcases n.kids with _|⟨x,_|⟨y,_|⟨z,_|⟨u,l⟩⟩⟩⟩
 ·rfl
 ·simp[aY,pn]
 ·simp[aY,pn]
 ·simp[aY,pn]
 ·simp[aY,pn]
theorem Dp(d:Nat)(k:Nd):((aa d).block k||(aa d).ifS k)=(decide (k.kind∈([36,30]:List Int))&&(aa d).stmt k):=by
 cases d with
 |zero=>simp[aa]
 |succ d=>
  show(bD (aa d) k||Am (aa d) k)=(decide (k.kind∈([36,30]:List Int))&&aB (aa d) k);obtain⟨j,t,l,p⟩:=k;by_cases I:j=36
  ·subst I;simp[aB,Am,EL]
  by_cases D:j=30
  ·subst D;simp[aB,bD]
  ·simp[bD,Am,EL,I,D]
theorem N8(d:Nat)(C:lN d)(nt:ByteArray)(nl:List Nd)(np:Int)(A:Option Addr)(cp:Nat)(w:World)(hv:aF w (.agg #[.int .i64 32,nt,.slice A nl.length cp,np]) (.mk 32 nt nl np))(hd:dK (d+1) (.mk 32 nt nl np)):
  Calls prog 27 #[.agg #[.int .i64 32,nt,.slice A nl.length cp,np]] w fun e w'=>e=.returned (.bool (aB (aa d) (.mk 32 nt nl np)))/\Below w w w':=by
 have HV:=hid hv;have HD:=hid hd;have gg:=hd.1.1;have HT:=hid C.typ;have HE:=hid C.expr;have M:=hd.1.2;have gt:=hid C.block;have hB:=(aj w #[.int .i64 32,nt,.slice A nl.length cp,np]).1;have gh:=(aj w #[.int .i64 32,nt,.slice A nl.length cp,np]).2;clear hv hd C;generalize aa d=F at *;simp only[Nd.kids_mk]at gg;simp only[Nd.text_mk]at M;have HR:=hid (show aB F (.mk 32 nt nl np)=(pk F.expr F.block nl&&bL nt)by(have h:aB F (.mk 32 nt nl np)=cA 32 [F.expr,F.block] (au bL (.mk 32 nt nl np)):=by simp[aB]);rw[h,tM]);by_cases h2:nl.length=2
 rotate_left
 ·(have gz:((nl.length:Int)==2)=false:=by rw[gC];omega);have HX:Hid (aB F (.mk 32 nt nl np)=false):=hid (by rw[HR.out,Bw _ _ h2,jG]);clear h2;generalize nl.length=m at *;(go_enter func27,ntmps27);go_wp2_with fail;go_ret;exact⟨by rw[HX.out];rfl,hB⟩
 obtain⟨x,y,rfl⟩:=EJ h2;clear h2;have gd:aF w (.agg #[.int .i64 32,nt,.slice A 2 cp,np]) (.mk 32 nt [x,y] np):=HV.out;have hB:Below w w (w.alloc (.cells #[.int .i64 32,nt,.slice A 2 cp,np] 24)):=hB;have gh:an (w.alloc (.cells #[.int .i64 32,nt,.slice A 2 cp,np] 24)) w.heap.size 24 #[.int .i64 32,nt,.slice A 2 cp,np]:=gh;obtain⟨bx,ox,A0,c0,rfl,ga⟩:=cE gd 0 (by simp);obtain⟨g0,gu,A1,c1,e,U⟩:=cE gd 1 (by simp);injection e with e;injection e with e1 e2;subst e1 e2;simp only[Nd.kids_mk,gT,kL,jK,jD,qC]at ga U;have O:=hid ga;have gp:=HD.out.kid (k:=x) (by simp);have gi:=hid U;have gn:=HD.out.kid (k:=y) (by simp);clear gd HV ga U;have N:=hid (fun w'(h:C4 w' bx ox x A0 c0)=>HE.out _ x w' h.2.2.2.2 gp);have gs:=hid (fun w'(h:C4 w' bx (ox+4) y A1 c1)=>gt.out _ y w' h.2.2.2.2 gn);have ge:=hid (show aB F (.mk 32 nt [x,y] np)=(bL nt&&(F.expr x&&F.block y))by rw[HR.out,Bool.and_comm];rfl);cases g1:bL nt with
 |false=>have HX:Hid (aB F (.mk 32 nt [x,y] np)=false):=hid (by rw[ge.out,g1,jG]);(go_enter func27,ntmps27);go_wp2_with fail;refine(pm _ M _).mono ?_;rw[g1];rintro e w1⟨rfl,I⟩;go_wp2_with fail;go_ret;exact⟨by rw[HX.out];rfl,aD hB I⟩
 |true=>
  cases g2:F.expr x with
  |false=>have HX:Hid (aB F (.mk 32 nt [x,y] np)=false):=hid (by rw[ge.out,g1,g2];rfl);rw[g2]at N;(go_enter func27,ntmps27);go_wp2_with fail;refine(pm _ M _).mono ?_;rw[g1];rintro e w1⟨rfl,I⟩;have D:=aD hB I;obtain⟨gm,gl,gk,gj,-⟩:=O.out.below D;go_wp2_with fail;refine(N.out _ (O.out.below D)).mono ?_;rintro e w2⟨rfl,gb⟩;have J:=aD D gb;go_wp2_with fail;go_ret;exact⟨by rw[HX.out];rfl,J⟩
  |true=>have HX:Hid (aB F (.mk 32 nt [x,y] np)=F.block y):=hid (by rw[ge.out,g1,g2];rfl);rw[g2]at N;(go_enter func27,ntmps27);go_wp2_with fail;refine(pm _ M _).mono ?_;rw[g1];rintro e w1⟨rfl,I⟩;have D:=aD hB I;obtain⟨gm,gl,gk,gj,-⟩:=O.out.below D;go_wp2_with fail;refine(N.out _ (O.out.below D)).mono ?_;rintro e w2⟨rfl,gb⟩;have J:=aD D gb;obtain⟨gy,gx,gw,gv,-⟩:=gi.out.below J;go_wp2_with fail;refine(gs.out _ (gi.out.below J)).mono ?_;rintro e w3⟨rfl,gq⟩;have gr:=aD J gq;go_wp2_with fail;go_ret;exact⟨by rw[HX.out];rfl,gr⟩
theorem N9(d:Nat)(C:lN d)(nt:ByteArray)(nl:List Nd)(np:Int)(A:Option Addr)(cp:Nat)(w:World)(hv:aF w (.agg #[.int .i64 30,nt,.slice A nl.length cp,np]) (.mk 30 nt nl np))(hd:dK (d+1) (.mk 30 nt nl np)):
  Calls prog 27 #[.agg #[.int .i64 30,nt,.slice A nl.length cp,np]] w fun e w'=>e=.returned (.bool (aB (aa d) (.mk 30 nt nl np)))/\Below w w w':=by
 have HV:=hid hv;have HD:=hid hd;have gv:=hd.1.1;have HT:=hid C.typ;have HE:=hid C.expr;have he:=hid C.block;have hc:=hid (Ah d C.stmt);have hf:=hid (Dp d);have hB:=(aj w #[.int .i64 30,nt,.slice A nl.length cp,np]).1;have gw:=(aj w #[.int .i64 30,nt,.slice A nl.length cp,np]).2;clear hv hd C;generalize aa d=F at *;simp only[Nd.kids_mk]at gv;have HR:=hid (show aB F (.mk 30 nt nl np)=(decide (nt=(⟨#[]⟩:BA))&&pn F.expr F.block (cB (cB ah F.block) F.ifS) nl)by(have h:aB F (.mk 30 nt nl np)=cA 30 [F.expr,F.block,cB (cB ah F.block) F.ifS] (.mk 30 nt nl np):=by simp[aB,Am]);rw[h,EL];simp;rfl);by_cases h1:nt=⟨#[]⟩
 rotate_left
 ·(have g5:nt.toList.isEmpty=false:=by rw[aq];simpa using h1);have HX:Hid (aB F (.mk 30 nt nl np)=false):=hid (by rw[HR.out,gM h1,jG]);clear h1;(go_enter func27,ntmps27);go_wp2_with fail;go_ret;exact⟨by rw[HX.out];rfl,hB⟩
 subst h1;by_cases h2:nl.length=3
 rotate_left
 ·(have g5:((nl.length:Int)==3)=false:=by rw[gC];omega);have HX:Hid (aB F (.mk 30 ⟨#[]⟩ nl np)=false):=hid (by rw[HR.out,Iu _ _ _ h2,jU]);clear h2;generalize nl.length=m at *;(go_enter func27,ntmps27);go_wp2_with fail;go_ret;exact⟨by rw[HX.out];rfl,hB⟩
 obtain⟨x,y,z,rfl⟩:=N7 h2;clear h2;have ge:aF w (.agg #[.int .i64 30,.string ⟨#[]⟩,.slice A 3 cp,.int .i64 np]) (.mk 30 ⟨#[]⟩ [x,y,z] np):=HV.out;have hB:Below w w (w.alloc (.cells #[.int .i64 30,.string ⟨#[]⟩,.slice A 3 cp,.int .i64 np] 24)):=hB;have gw:an (w.alloc (.cells #[.int .i64 30,.string ⟨#[]⟩,.slice A 3 cp,.int .i64 np] 24)) w.heap.size 24 #[.int .i64 30,.string ⟨#[]⟩,.slice A 3 cp,.int .i64 np]:=gw;obtain⟨bx,ox,A0,c0,rfl,gp⟩:=cE ge 0 (by simp);obtain⟨hj,hh,A1,c1,e,gn⟩:=cE ge 1 (by simp);injection e with e;injection e with e1 e2;subst e1 e2;obtain⟨hi,hg,A2,c2,e,gm⟩:=cE ge 2 (by simp);injection e with e;injection e with e1 e2;subst e1 e2;simp only[Nd.kids_mk,gT,kL,jK,jD,qC]at gp gn gm;have ga:=hid gp;have g8:=HD.out.kid (k:=x) (by simp);have U:=hid gn;have g7:=HD.out.kid (k:=y) (by simp);have O:=hid gm;have g6:=HD.out.kid (k:=z) (by simp);clear ge HV gp gn gm;have N:=hid (fun w'(h:C4 w' bx ox x A0 c0)=>HE.out _ x w' h.2.2.2.2 g8);have gd:=hid (fun w'(h:C4 w' bx (ox+4) y A1 c1)=>he.out _ y w' h.2.2.2.2 g7);have gh:=hid (fun w'(h:C4 w' bx (ox+2*4) z A2 c2)=>ev _ z w' h.2.2.2.2);have ha:=hid (fun w'(h:C4 w' bx (ox+2*4) z A2 c2)=>hc.out _ z (w'.alloc (.cells #[.int .i64 36,.int .i64 30] 3)) (af.below h.2.2.2.2 ((gG _ _).alloc (gA _) _)) g6 [36,30] w'.heap.size 2 (oz.of_blk (an.new w' 3 #[.int .i64 36,.int .i64 30])) (by decide));have gg:=hid (show aB F (.mk 30 ⟨#[]⟩ [x,y,z] np)=(F.expr x&&(F.block y&&(ah z||(decide (z.kind∈([36,30]:List Int))&&F.stmt z))))by rw[HR.out,<-hf.out z];simp[pn,cB,Bool.or_assoc]);generalize(decide (z.kind∈([36,30]:List Int))&&F.stmt z)=rz at *;cases g2:F.expr x with
 |false=>have HX:Hid (aB F (.mk 30 ⟨#[]⟩ [x,y,z] np)=false):=hid (by rw[gg.out,g2];rfl);rw[g2]at N;obtain⟨g1,g0,gz,gy,-⟩:=ga.out.below hB;(go_enter func27,ntmps27);go_wp2_with fail;refine(N.out _ (ga.out.below hB)).mono ?_;rintro e w1⟨rfl,J⟩;have D:=aD hB J;go_wp2_with fail;go_ret;exact⟨by rw[HX.out];rfl,D⟩
 | true=>
  rw[g2]at N;obtain⟨g1,g0,gz,gy,-⟩:=ga.out.below hB;cases g3:F.block y with
  |false=>have HX:Hid (aB F (.mk 30 ⟨#[]⟩ [x,y,z] np)=false):=hid (by rw[gg.out,g2,g3];rfl);rw[g3]at gd;(go_enter func27,ntmps27);go_wp2_with fail;refine(N.out _ (ga.out.below hB)).mono ?_;rintro e w1⟨rfl,J⟩;have D:=aD hB J;obtain⟨gu,gt,gs,gr,-⟩:=U.out.below D;go_wp2_with fail;refine(gd.out _ (U.out.below D)).mono ?_;rintro e w2⟨rfl,gb⟩;have I:=aD D gb;go_wp2_with fail;go_ret;exact⟨by rw[HX.out];rfl,I⟩
  |true=>
   rw[g3]at gd;cases g4:ah z with
   |true=>have HX:Hid (aB F (.mk 30 ⟨#[]⟩ [x,y,z] np)=true):=hid (by rw[gg.out,g2,g3,g4];rfl);rw[g4]at gh;(go_enter func27,ntmps27);go_wp2_with fail;refine(N.out _ (ga.out.below hB)).mono ?_;rintro e w1⟨rfl,J⟩;have D:=aD hB J;obtain⟨gu,gt,gs,gr,-⟩:=U.out.below D;go_wp2_with fail;refine(gd.out _ (U.out.below D)).mono ?_;rintro e w2⟨rfl,gb⟩;have I:=aD D gb;obtain⟨gl,gk,gj,gi,-⟩:=O.out.below I;go_wp2_with fail;refine(gh.out _ (O.out.below I)).mono ?_;rintro e w3⟨rfl,gq⟩;have M:=aD I gq;go_wp2_with fail;go_ret;exact⟨by rw[HX.out];rfl,M⟩
   |false=>have HX:Hid (aB F (.mk 30 ⟨#[]⟩ [x,y,z] np)=rz):=hid (by rw[gg.out,g2,g3,g4];rfl);rw[g4]at gh;(go_enter func27,ntmps27);go_wp2_with fail;refine(N.out _ (ga.out.below hB)).mono ?_;rintro e w1⟨rfl,J⟩;have D:=aD hB J;obtain⟨gu,gt,gs,gr,-⟩:=U.out.below D;go_wp2_with fail;refine(gd.out _ (U.out.below D)).mono ?_;rintro e w2⟨rfl,gb⟩;have I:=aD D gb;obtain⟨gl,gk,gj,gi,-⟩:=O.out.below I;go_wp2_with fail;refine(gh.out _ (O.out.below I)).mono ?_;rintro e w3⟨rfl,gq⟩;have M:=aD I gq;clear gl gk gj gi;obtain⟨gl,gk,gj,gi,-⟩:=O.out.below M;go_wp2_with fail;refine(ha.out _ (O.out.below M)).mono ?_;rintro e w4⟨rfl,g9⟩;have gx:=M.alloc M.size (.cells #[.int .i64 36,.int .i64 30] 3);go_wp2_with fail;go_ret;exact⟨by rw[HX.out];rfl,aD gx g9⟩
end
end Go.Proofs.YtiebcdeafofgdaaGreatDoor
