/-
  Parts of the proof: Pwk Pwl Pwm Pwn Pxa Pxb. By an AI agent.
-/
import Derived.Test.YtiebcdeafofgdaaGreatDoorL23
import Derived.Test.YtiebcdeafofgdaaGreatDoorL20
set_option maxRecDepth 100000
set_option maxHeartbeats 8000000
namespace Go.Proofs.YtiebcdeafofgdaaGreatDoor
section
open Go.RowKit Go.Lib Go.Proofs
attribute [local go_sem ↓] Go.wp_at_zero Go.wp_at_succ
theorem Fj {d:Nat} {x:Nd} (h:(aa d).expr x=true):¬ (x.kind=11∨x.kind=12):=by
 cases d with
 | zero=>cases h
 | succ d=>have h:ay (aa d) x=true:=h;intro D;rcases D with D | D <;> simp [ay,bQ,D] at h
def Bp (d:Nat) (x:Nd):Prop:=(if x.kind=11∨x.kind=12 then (aa d).typ x else (aa d).expr x)=true
theorem p9 {d:Nat} {x:Nd} (h:(aa d).expr x=true):Bp d x:=by unfold Bp;rw [if_neg (Fj h)];exact h
theorem Dv {d:Nat} {x:Nd} (h:cN (aa d) x=true):Bp d x:=by
 unfold cN at h;rw [Bool.or_eq_true,Bool.and_eq_true,decide_eq_true_eq] at h;rcases h with h | ⟨I,D⟩
 ·exact p9 h
 ·unfold Bp;have:=typ_kind D;rw [if_pos (by omega)];exact D
theorem Fk {d:Nat} {n:Nd} (h:ay (aa d) n=true) (D:n.kind=21∨n.kind=22∨n.kind=23):∃ k t f l p,n=.mk k t (f::l) p∧(aa d).expr f=true∧(k=23∨∀ x∈l,Bp d x):=by
 unfold ay at h;rw [if_neg (by omega),if_neg (by omega),if_neg (by omega),if_neg (by omega),if_neg (by omega)] at h;have e:=n.eta;rcases D with D | D | D
 ·rw [if_pos D,Bool.and_eq_true,Bool.and_eq_true,decide_eq_true_eq,decide_eq_true_eq] at h;obtain ⟨-,J,I⟩:=h;generalize n.kids=l at *;rcases l with _ | ⟨f,l⟩
  ·cases J
  ·have I:=List.all_eq_true.1 I;exact ⟨_,_,f,l,_,e,I f (by simp),.inr fun x hx=>p9 (I x (by simp [hx]))⟩
 ·rw [if_neg (by omega),if_pos D,Bool.and_eq_true,Bool.and_eq_true,Bool.and_eq_true,decide_eq_true_eq,decide_eq_true_eq] at h;obtain ⟨-,J,K,I⟩:=h;generalize n.kids=l at *;rcases l with _ | ⟨f,l⟩
  ·exact absurd J (by simp)
  ·exact ⟨_,_,f,l,_,e,K,.inr fun x hx=>Dv (List.all_eq_true.1 I x hx)⟩
 ·rw [if_neg (by omega),if_neg (by omega),if_pos D] at h;obtain ⟨t,l,p,rfl,-,M⟩:=aM (by decide) h;obtain ⟨f,rfl,K⟩:=ec M;exact ⟨_,t,f,[],p,rfl,K,.inl rfl⟩
theorem uC (F:oX) (k:Int) (t:ByteArray) (f:Nd) (l:List Nd) (p:Int) (deep:Nat) (head:Bool) (D:k=21∨k=22∨k=23):tx (i7 F (.mk k t (f::l) p) deep head)=tx (aT F ((f.kind==19)||(f.kind==20)) f deep head) ++
  (if k=21 then (⟨#[40]⟩:BA)++tx (dy F (.mk k t (f::l) p) deep)++(⟨#[41]⟩:BA) else if k=22 then (⟨#[91]⟩:BA)++tx (dy F (.mk k t (f::l) p) deep)++(⟨#[93]⟩:BA) else (⟨#[46]⟩:BA)++t):=by
 rcases D with rfl | rfl | rfl
 ·show tx (aT F _ f deep head++(cF 40::(dy F _ deep++[cF 41])))=_;rw [aQ,aj,aQ,if_pos rfl,ah];rfl
 ·show tx (aT F _ f deep head++(cF 91::(dy F _ deep++[cF 93])))=_;rw [aQ,aj,aQ,if_neg (by decide),if_pos rfl,ah];rfl
 ·show tx (aT F _ f deep head++[cF 46,ik t])=_;rw [aQ,aj,lH,if_neg (by decide),if_neg (by decide)];rfl
theorem Dw (d:Nat) (HE:dP d):p6 d (fun k=>k=21∨k=22∨k=23):=by
 intro v n w deep head hv hn u hd J;obtain ⟨k,t,f,l,p,rfl,hf,hl⟩:=Fk hn u;have N:=hid (uC (an d) k t f l p deep head u);rw [N.out,ByteArray.size_append] at J;obtain ⟨A,cp,rfl,hC⟩:=hv.toC;simp only [Nd.kind_mk,Nd.text_mk,Nd.kids_mk,Nd.pos_mk] at *;have hB:=(ae w #[.int .i64 k,.string t,.slice A (f::l).length cp,.int .i64 p]).1;have hN:=(ae w #[.int .i64 k,.string t,.slice A (f::l).length cp,.int .i64 p]).2;obtain ⟨bp,op,A2,c2,rfl,q⟩:=cH (ai.below hv hB) 0 (by simp);simp only [Nd.kids_mk,List.getElem_cons_zero,Nat.zero_mul,Nat.add_zero] at q;(have gg:(0:Int)<((f::l).length:Int):=by simp);have M:=hB.alloc (by simp) (.cells #[.int .i64 f.kind,.string f.text,.slice A2 f.kids.length c2,.int .i64 f.pos] 24);have U:=hN.alloc (.cells #[.int .i64 f.kind,.string f.text,.slice A2 f.kids.length c2,.int .i64 f.pos] 24);have O:=ai.below q.2.2.2.2 ((Below.refl _ _).alloc (Nat.le_refl _) (.cells #[.int .i64 f.kind,.string f.text,.slice A2 f.kids.length c2,.int .i64 f.pos] 24));have j:=ai.below hv M;obtain ⟨p0,p1,p2,p3,-⟩:=q;have D:=hid (mt d HE _ f _ ((f.kind==19)||(f.kind==20)) deep head O hf hd (by omega));have HO:=hid (fun (w':World) (hb:Below w.heap.size w w') (h:k≠23) (J:(tx (dy (an d) (.mk k t (f::l) p) deep)).size≤10000000000000000)=>p5 d HE _ (.mk k t (f::l) p) w' deep (ai.below hv hb) (hl.resolve_left h) hd J);generalize tx (aT (an d) ((f.kind==19)||(f.kind==20)) f deep head)=X at *;generalize tx (dy (an d) (.mk k t (f::l) p) deep)=Y at *;clear hv hC hN O j hn hf hl;generalize (f::l).length=m at *;(go_enter Tryz.func15,Tryz.ntmps15);cases gd:(f.kind==19)
 rotate_left
 rotate_left
 cases gb:(f.kind==20);all_goals
  rcases u with rfl | rfl | rfl;all_goals
   first
    | rw [if_pos (show (21:Int)=21 from rfl)] at N J
    | rw [if_neg (show ¬ (22:Int)=21 by decide),if_pos (show (22:Int)=22 from rfl)] at N J
    | rw [if_neg (show ¬ (23:Int)=21 by decide),if_neg (show ¬ (23:Int)=22 by decide)] at N J
   (try rw [gb] at D);rw [gd] at D;simp only [ByteArray.size_append] at J;(go_wp2_with fail);refine D.out.mono ?_;rintro e w3 ⟨rfl,I⟩;have K:=am M I;obtain ⟨n0,n1,n2,n3,-,-,-,-⟩:=ac (U.bl I);clear I D p0 p1 p2 p3 U M hB;first
    | (have ge:=HO.out w3 K (by decide) (by omega);(go_wp2_with fail);refine ge.mono ?_;rintro e w4 ⟨rfl,ga⟩;(go_wp2_with fail);go_ret;exact ⟨by rw [N.out];simp only [ah];rfl,am K ga⟩)
    | ((go_wp2_with fail);go_ret;exact ⟨by rw [N.out];simp only [ah];rfl,K⟩)
theorem om (d:Nat):(an d).typ=az d:=by cases d <;> rfl
theorem G7 {d:Nat} {n:Nd} (h:ay (aa d) n=true) (D:n.kind=24):∃ f l p,n=.mk 24 (⟨#[]⟩:BA) (f::l) p∧(aa d).typ f=true∧∀ x∈l,Bp d x:=by
 unfold ay at h;rw [if_neg (by omega),if_neg (by omega),if_neg (by omega),if_neg (by omega),if_neg (by omega),if_neg (by omega),if_neg (by omega),if_neg (by omega),if_pos D,Bool.and_eq_true,Bool.and_eq_true,Bool.and_eq_true,Bool.and_eq_true,decide_eq_true_eq,decide_eq_true_eq] at h;obtain ⟨I,J,-,K,M⟩:=h;have e:=n.eta;rw [D,I] at e;generalize n.kids=l at *;rcases l with _ | ⟨f,l⟩
 ·exact absurd J (by simp)
 ·exact ⟨f,l,n.pos,e,K,fun x hx=>p9 (List.all_eq_true.1 M x hx)⟩
theorem G8 {d:Nat} {n:Nd} (h:ay (aa d) n=true) (I:n.kind=25):∃ s b p,n=.mk 25 (⟨#[]⟩:BA) [s,b] p∧dn (aa d) s=true∧(aa d).block b=true:=by unfold ay at h;rw [if_neg (by omega),if_neg (by omega),if_neg (by omega),if_neg (by omega),if_neg (by omega),if_neg (by omega),if_neg (by omega),if_neg (by omega),if_neg (by omega)] at h;obtain ⟨l,p,rfl,D⟩:=cD h;obtain ⟨s,b,rfl,hs,hb⟩:=il D;exact ⟨s,b,p,rfl,hs,hb⟩
theorem G9 (d:Nat) (n:Nd) (deep:Nat):tx (my (an d) n deep)=tx (az d (aJ n 0))++(⟨#[123]⟩:BA)++tx (dy (an d) n deep)++(⟨#[125]⟩:BA):=by unfold my;rw [aQ,aj,aQ,om,ah,ah];rfl
theorem Dx (d:Nat) (f:Nd) (l:List Nd) (p:Int) (deep:Nat) (head:Bool):tx (i7 (an d) (.mk 24 (⟨#[]⟩:BA) (f::l) p) deep head)=if (head&&(f.kind==10))=true then (⟨#[40]⟩:BA)++tx (my (an d) (.mk 24 (⟨#[]⟩:BA) (f::l) p) deep)++(⟨#[41]⟩:BA) else tx (my (an d) (.mk 24 (⟨#[]⟩:BA) (f::l) p) deep):=by
 show tx (if head=true∧f.kind=10 then cF 40::(my (an d) (.mk 24 (⟨#[]⟩:BA) (f::l) p) deep++[cF 41]) else my (an d) (.mk 24 (⟨#[]⟩:BA) (f::l) p) deep)=_;by_cases h:head=true∧f.kind=10
 ·rw [if_pos h,if_pos (by rw [Bool.and_eq_true,beq_iff_eq];exact h),aj,aQ,ah];rfl
 ·rw [if_neg h,if_neg (by rw [Bool.and_eq_true,beq_iff_eq];exact h)]
theorem Dy (d:Nat) (s b:Nd) (p:Int) (deep:Nat) (head:Bool):tx (i7 (an d) (.mk 25 (⟨#[]⟩:BA) [s,b] p) deep head)=(⟨#[102,117,110,99]⟩:BA)++tx (fK (az d) s)++(⟨#[32]⟩:BA)++tx ((an d).block b deep):=by show tx (fB (⟨#[102,117,110,99]⟩:BA)::(fK (an d).typ s++(aY::(an d).block b deep)))=_;rw [aj,aQ,aj aY,ux,pV,om,ah,ah]
theorem Fl (d:Nat) (HE:dP d):p6 d (fun k=>k=24):=by
 intro v n w deep head hv hn hk hd hM;obtain ⟨f,l,p,rfl,hf,u⟩:=G7 hn hk;have K:=hid (Dx d f l p deep head);have N:=hid (G9 d (.mk 24 (⟨#[]⟩:BA) (f::l) p) deep);have I:(tx (my (an d) (.mk 24 (⟨#[]⟩:BA) (f::l) p) deep)).size≤10000000000000000:=by
  rw [K.out] at hM;split at hM
  ·rw [ByteArray.size_append,ByteArray.size_append] at hM;omega
  ·exact hM
 rw [N.out,ByteArray.size_append,ByteArray.size_append,ByteArray.size_append] at I;rw [show aJ (.mk 24 (⟨#[]⟩:BA) (f::l) p) 0=f from rfl] at N I;obtain ⟨A,cp,rfl,hC⟩:=hv.toC;simp only [Nd.kind_mk,Nd.text_mk,Nd.kids_mk,Nd.pos_mk] at *;have hB:=(ae w #[.int .i64 24,.string (⟨#[]⟩:BA),.slice A (f::l).length cp,.int .i64 p]).1;have hN:=(ae w #[.int .i64 24,.string (⟨#[]⟩:BA),.slice A (f::l).length cp,.int .i64 p]).2;obtain ⟨bp,op,A2,c2,rfl,M⟩:=cH (ai.below hv hB) 0 (by simp);simp only [Nd.kids_mk,List.getElem_cons_zero,Nat.zero_mul,Nat.add_zero] at M;(have ga:(0:Int)<((f::l).length:Int):=by simp);have D:=ai.below hv hB;clear hn hk hv hC;(go_enter Tryz.func15,Tryz.ntmps15);(go_upto_region 21 with fail);generalize w.alloc (.cells #[.int .i64 24,.string (⟨#[]⟩:BA),.slice (some ⟨bp,op,none⟩) (f::l).length cp,.int .i64 p] 24)=W at *;have J:=hid (fun m:Wd (Below W.heap.size W)=>eY d _ f m.wd (M.below m.ok).2.2.2.2 hf (by omega));have HO:=hid (fun m:Wd (Below W.heap.size W)=>p5 d HE _ (.mk 24 (⟨#[]⟩:BA) (f::l) p) m.wd deep (ai.below D m.ok) u hd (by omega));obtain ⟨j,k1,k2,k3⟩:=p8 M;obtain ⟨n0,n1,h,n3⟩:=Aa hN;generalize tx (dy (an d) (.mk 24 (⟨#[]⟩:BA) (f::l) p) deep)=Y at *;generalize tx (az d f)=X at *;generalize tx (my (an d) (.mk 24 (⟨#[]⟩:BA) (f::l) p) deep)=L at *;clear hN M D HE hf u;generalize (f::l).length=q at *;refine dl W ?_;repeat (go_big_quiet_step (first
  | (go_at_call 37;rename_i m;exact oT J.out m)
  | (go_at_call 36;rename_i m;exact oT HO.out m)))
 refine wpQuiet_nil ?_;intro m;have O:=am hB m.ok;have j:=j m;have h:=h m;clear J HO k1 k2 k3 n0 n1 n3;cases head <;> cases U:(f.kind==10);all_goals
  rw [U] at K;first
   | rw [if_pos (show (true&&true)=true from rfl),N.out] at K
   | rw [if_neg (by decide),N.out] at K
  (go_wp2_with fail);go_ret;exact ⟨by rw [K.out];simp only [ah];rfl,O⟩
theorem Fm (d:Nat) (I:ii d):p6 d (fun k=>k=25):=by
 intro v n w deep head hv hn hk hd hM;obtain ⟨s,b,p,rfl,hs,hb⟩:=G8 hn hk;have U:=hid (Dy d s b p deep head);rw [U.out,ByteArray.size_append,ByteArray.size_append,ByteArray.size_append] at hM;obtain ⟨A,cp,rfl,h⟩:=hv.toC;simp only [Nd.kind_mk,Nd.text_mk,Nd.kids_mk,Nd.pos_mk] at *;have hB:=(ae w #[.int .i64 25,.string (⟨#[]⟩:BA),.slice A 2 cp,.int .i64 p]).1;have D:ax w (.agg #[.int .i64 25,.string (⟨#[]⟩:BA),.slice A 2 cp,.int .i64 p]) (.mk 25 (⟨#[]⟩:BA) [s,b] p):=hv;have O:=(ae w #[.int .i64 25,.string (⟨#[]⟩:BA),.slice A 2 cp,.int .i64 p]).2;obtain ⟨bp,op,A2,c2,A3,c3,rfl,K,J⟩:=ya (ai.below D hB);clear hn hk hv h D;(go_enter Tryz.func15,Tryz.ntmps15);(go_upto_region 26 with fail);generalize w.alloc (.cells #[.int .i64 25,.string (⟨#[]⟩:BA),.slice (some ⟨bp,op,none⟩) 2 cp,.int .i64 p] 24)=W at *;have N:=hid (fun m:Wd (Below W.heap.size W)=>pW d (eY d) _ s m.wd (K.below m.ok).2.2.2.2 hs (by omega));have j:=hid (fun m:Wd (Below W.heap.size W)=>I _ b m.wd deep (J.below m.ok).2.2.2.2 hb hd (by omega));obtain ⟨k0,k1,k2,k3⟩:=p8 K;obtain ⟨b0,b1,b2,b3⟩:=p8 J;obtain ⟨n0,n1,u,q⟩:=Aa O;generalize tx (fK (az d) s)=X at *;generalize tx ((an d).block b deep)=Y at *;clear O K J I hs hb;refine dl W ?_;repeat (go_big_quiet_step (first
  | (go_at_call 38;rename_i m;exact oT N.out m)
  | (go_at_call 39;rename_i m;exact oT j.out m)))
 refine wpQuiet_nil ?_;intro m;have M:=am hB m.ok;(go_wp2_with fail);go_ret;exact ⟨by rw [U.out];rfl,M⟩
theorem Bq (d:Nat) (J:dP d) (u:ii d):dP (d+1):=by
 intro v n w deep head hv D hd I;have D:ay (aa d) n=true:=D;have I:(tx (i7 (an d) n deep head)).size≤10000000000000000:=I;(have hd:deep+d≤1000:=by omega);by_cases q:n.kind=16∨n.kind=18
 ·exact Ds d v n w deep head hv D q hd I
 by_cases j:n.kind=17
 ·exact Fh d v n w deep head hv D j hd I
 by_cases U:n.kind=19
 ·exact G6 d J v n w deep head hv D U hd I
 by_cases O:n.kind=20
 ·exact Fi d J v n w deep head hv D O hd I
 by_cases N:n.kind=21∨n.kind=22∨n.kind=23
 ·exact Dw d J v n w deep head hv D N hd I
 by_cases M:n.kind=24
 ·exact Fl d J v n w deep head hv D M hd I
 (have K:n.kind=25:=by have h:=D;unfold ay at h;rw [if_neg (by omega),if_neg (by omega),if_neg (by omega),if_neg (by omega),if_neg (by omega),if_neg (by omega),if_neg (by omega),if_neg (by omega),if_neg (by omega)] at h;obtain ⟨l,p,rfl,-⟩:=cD h;rfl);exact Fm d u v n w deep head hv D K hd I
def lf (F:oX) (deep:Nat) (x:Nd):List It:=i6 (deep+1)++(F.stmt x (deep+1) false++[.nl])
theorem sX (F:oX) (deep:Nat) (x:Nd):tx (lf F deep x)=pZ (deep+1)++tx (F.stmt x (deep+1) false)++(⟨#[10]⟩:BA):=by unfold lf;rw [aQ,aQ,ah];rfl
theorem Ia (F:oX) (n:Nd) (deep:Nat):tx (nz F n deep)=(⟨#[123,10]⟩:BA)++tx (n.kids.flatMap (lf F deep))++pZ deep++(⟨#[125]⟩:BA):=by show tx (cF 123::.gap 10::(n.kids.flatMap (lf F deep)++(i6 deep++[cF 125])))=_;rw [aj,aj (.gap 10),aQ,aQ,←ah,ah,ah];rfl
theorem ra (d:Nat) (HS:p4 d) (v:Value) (n:Nd) (w:World) (deep:Nat) (h:ax w v n) (U:bm (aa d) n=true) (hd:deep+d+1≤1000) (hM:(tx (nz (an d) n deep)).size≤10000000000000000) :
  Calls Tryz.prog 39 #[v,.int .i64 (deep:Int)] w fun e w'=>e=.returned (.string (tx (nz (an d) n deep)))∧Below w.heap.size w w':=by
 unfold bm at U;rw [Bool.and_eq_true,Bool.and_eq_true] at U;have HL:=hid (List.all_eq_true.1 U.2.2);have HR:=hid (Ia (an d) n deep);rw [HR.out,ByteArray.size_append,ByteArray.size_append,ByteArray.size_append] at hM;have ge:=o9 (lf (an d) deep) (fun x=>by rw [sX,ByteArray.size_append];exact Nat.le_add_left _ _) n.kids;obtain ⟨A,cp,rfl,hC⟩:=h.toC;have HV:=hid h;have hB:=(ae w #[.int .i64 n.kind,.string n.text,.slice A n.kids.length cp,.int .i64 n.pos]).1;have M:=(ae w #[.int .i64 n.kind,.string n.text,.slice A n.kids.length cp,.int .i64 n.pos]).2;have gh:=ol deep;have gg:=ol (deep+1);have q1:IntKind.i64.wrap ((deep:Int)+1)=(deep:Int)+1:=IntWalk.i64_in _ (by omega);clear h hC U;(go_enter Tryz.func39,Tryz.ntmps39);(go_wp2_with fail);generalize w.alloc (.cells #[.int .i64 n.kind,.string n.text,.slice A n.kids.length cp,.int .i64 n.pos] 24)=w0 at *;go_loopg [5,6] n.kids.length (fun k u5 u6 wr=>∃ i:Nat,i≤n.kids.length∧n.kids.length-i≤k∧u6=.int .i64 (i:Int)∧u5=.string ((⟨#[123,10]⟩:BA)++tx ((n.kids.take i).flatMap (lf (an d) deep)))∧Below w0.heap.size w0 wr)
 case atStart=>exact ⟨0,Nat.zero_le _,by omega,rfl,rfl,Below.refl _ _⟩
 case round=>
  obtain ⟨i,hi,hk,rfl,rfl,D⟩:=hrel;have gi:=mr (lf (an d) deep) n.kids i;by_cases K:i<n.kids.length
  ·(have O:(i:Int)<(n.kids.length:Int):=by omega);(have h0:(0:Int)≤(i:Int):=by omega);obtain ⟨x0,x1,x2,x3,-,-,-,-⟩:=ac (M.bl D);obtain ⟨-,-,n2,-⟩:=Aa (M.bl D);obtain ⟨bp,op,A2,c2,gd,q⟩:=cH (ai.below HV.out (am hB D)) i K;subst gd;have J:=hid (sW (lf (an d) deep) n.kids i K);have j:=mr (lf (an d) deep) n.kids (i+1);rw [J.out,sX,ByteArray.size_append,ByteArray.size_append,ByteArray.size_append] at j;rw [sX] at J;have HX:=hid (HL.out _ (List.getElem_mem K));generalize n.kids[i]=x at *;have N:=hid (fun m:Wd (Below wr.heap.size wr)=>HS _ x m.wd (deep+1) (q.below m.ok).2.2.2.2 HX.out (by omega) (by omega));have I:=hid (fun m:Wd (Below wr.heap.size wr)=>uB (deep+1) (by omega) m.wd);obtain ⟨k0,k1,k2,k3⟩:=p8 q;generalize tx ((an d).stmt x (deep+1) false)=X at *;generalize tx ((n.kids.take i).flatMap (lf (an d) deep))=S at *;generalize pZ (deep+1)=T at *;rw [show ((deep+1:Nat):Int)=(deep:Int)+1 by omega] at N I;clear q HX;(go_wp2_with fail);refine dl wr ?_;repeat (go_big_quiet_step (first
    | (go_at_call 69;rename_i m;exact oT N.out m)
    | (go_at_call 68;rename_i m;exact oT I.out m)))
   refine wpQuiet_nil ?_;intro m;have ga:=m.ok;clear k0 k1 k2 k3 n2 x0 x1 x2 x3 N I;(go_wp2_with fail);go_roundg (n.kids.length-(i+1))
   case measure=>omega
   case rel=>exact ⟨i+1,by omega,Nat.le_refl _,by go_num,by rw [J.out];simp only [ah],am D ga⟩
  ·(have O:¬ (i:Int)<(n.kids.length:Int):=by omega);obtain ⟨x0,x1,x2,x3,-,-,-,-⟩:=ac (M.bl D);have J:=hid (show tx ((n.kids.take i).flatMap (lf (an d) deep))=tx (n.kids.flatMap (lf (an d) deep)) by rw [List.take_of_length_le (by omega)]);rw [←J.out] at HR hM;generalize tx ((n.kids.take i).flatMap (lf (an d) deep))=S at *;have I:=hid (uB deep (by omega) wr);generalize pZ deep=T at *;(go_wp2_with fail);refine I.out.mono ?_;rintro e w3 ⟨rfl,u⟩;(go_wp2_with fail);go_ret;have gb:=am D u;exact ⟨by rw [HR.out];rfl,am hB gb⟩
theorem ye (d:Nat) (D:p4 d):ii (d+1):=fun v n w deep hv hn hd hM=>ra d D v n w deep hv hn (by omega) hM
theorem Dz {F:bj} {n:Nd} (h:fd F n=true):∃ t a b p,n=.mk 5 t [a,b] p∧(ag a=true∨F.typ a=true)∧(ag b=true∨F.expr b=true):=by unfold fd at h;rw [Bool.and_eq_true] at h;obtain ⟨t,l,p,rfl,-,I⟩:=aM (by decide) h.1;obtain ⟨a,b,rfl,D,hb⟩:=il I;unfold bI at D hb;rw [Bool.or_eq_true] at D hb;exact ⟨t,a,b,p,rfl,D,hb⟩
theorem fj {P:Prop} {n:Nd} (h:ag n=true∨P) (D:n.kind≠0):P:=h.resolve_left fun h=>by obtain ⟨a,rfl⟩:=ce h;exact D rfl
theorem Ib (d:Nat) (t:ByteArray) (a b:Nd) (p:Int) (deep:Nat):tx (nW (an d) (.mk 5 t [a,b] p) deep)=(⟨#[118,97,114,32]⟩:BA)++t++(if a.kind=0 then (⟨#[]⟩:BA) else (⟨#[32]⟩:BA)++tx (az d a))++(if b.kind=0 then (⟨#[]⟩:BA) else (⟨#[32,61,32]⟩:BA)++tx ((an d).expr b deep false)):=by
 show tx (fB (⟨#[118,97,114]⟩:BA)::aY::ik t::((if a.kind=0 then [] else aY::(an d).typ a)++(if b.kind=0 then [] else aY::cF 61::aY::(an d).expr b deep false)))=_;rw [aj,aj aY,aj (ik t),aQ,ux,lH,om,←ah,←ah,←ah];congr 1
 ·congr 1;split
  ·rfl
  ·rw [aj,pV]
 ·split
  ·rfl
  ·rw [aj,aj (cF 61),aj aY ((an d).expr b deep false),←ah,←ah];rfl
theorem uD (d:Nat) (HE:dP d) (v:Value) (n:Nd) (w:World) (deep:Nat) (hv:ax w v n) (hn:fd (aa d) n=true) (hd:deep+d≤1000) (K:(tx (nW (an d) n deep)).size≤10000000000000000) :
  Calls Tryz.prog 57 #[v,.int .i64 (deep:Int)] w fun e w'=>e=.returned (.string (tx (nW (an d) n deep)))∧Below w.heap.size w w':=by
 obtain ⟨t,a,b,p,rfl,ha,hb⟩:=Dz hn;have J:=hid (Ib d t a b p deep);rw [J.out,ByteArray.size_append,ByteArray.size_append,ByteArray.size_append] at K;obtain ⟨A,cp,rfl,hC⟩:=hv.toC;simp only [Nd.kind_mk,Nd.text_mk,Nd.kids_mk,Nd.pos_mk] at *;have hB:=(ae w #[.int .i64 5,.string t,.slice A 2 cp,.int .i64 p]).1;have U:ax w (.agg #[.int .i64 5,.string t,.slice A 2 cp,.int .i64 p]) (.mk 5 t [a,b] p):=hv;have hN:=(ae w #[.int .i64 5,.string t,.slice A 2 cp,.int .i64 p]).2;obtain ⟨bp,op,A2,c2,A3,c3,rfl,hp,hq⟩:=ya (ai.below U hB);have gd:=hid (fun (h:a.kind≠0) (hm:(tx (az d a)).size≤10000000000000000)=>eY d _ a _ hp.2.2.2.2 (fj ha h) hm);have q:=hid (fun (w':World) (gb:Below _ _ w') (h:b.kind≠0) (hm:(tx ((an d).expr b deep false)).size≤10000000000000000)=>HE _ b w' deep false (hq.below gb).2.2.2.2 (fj hb h) hd hm);have HQ:=hid hq;have j:=hid hN;obtain ⟨p0,p1,p2,p3,-⟩:=hp;obtain ⟨u,q1,q2,q3,-⟩:=hq;generalize tx (az d a)=X at *;generalize tx ((an d).expr b deep false)=Y at *;clear hv hC U hN ha hb hn HE;by_cases N:a.kind=0
 ·rw [if_pos N] at J K;rw [N] at p0;by_cases I:b.kind=0
  ·rw [if_pos I] at J K;rw [I] at u;(go_enter Tryz.func57,Tryz.ntmps57);(go_wp2_with fail);go_ret;exact ⟨by rw [J.out,lB,lB];rfl,hB⟩
  ·rw [if_neg I] at J K;rw [ByteArray.size_append] at K;(have e2:(b.kind != 0)=true:=by simpa using I);have M:=hid (q.out _ (Below.refl _ _) I (by omega));(go_enter Tryz.func57,Tryz.ntmps57);(go_wp2_with fail);refine M.out.mono ?_;rintro e w3 ⟨rfl,D⟩;(go_wp2_with fail);go_ret;exact ⟨by rw [J.out,lB];rfl,am hB D⟩
 ·rw [if_neg N,ByteArray.size_append] at K;rw [if_neg N] at J;(have e1:(a.kind != 0)=true:=by simpa using N);have ge:=hid (gd.out N (by omega));(go_enter Tryz.func57,Tryz.ntmps57);(go_wp2_with fail);refine ge.out.mono ?_;rintro e w3 ⟨rfl,D⟩;obtain ⟨n0,n1,n2,n3,-,-,-,-⟩:=ac (j.out.below D j.out.lt);obtain ⟨r0,r1,r2,r3,-⟩:=HQ.out.below D;have O:=am hB D;by_cases I:b.kind=0
  ·rw [if_pos I] at J K;rw [I] at r0;clear u q1 q2 q3 p0 p1 p2 p3;(go_wp2_with fail);go_ret;exact ⟨by rw [J.out,lB];rfl,O⟩
  ·rw [if_neg I] at J K;rw [ByteArray.size_append] at K;(have e2:(b.kind != 0)=true:=by simpa using I);have M:=hid (q.out _ D I (by omega));clear u q1 q2 q3 p0 p1 p2 p3;(go_wp2_with fail);refine M.out.mono ?_;rintro e w4 ⟨rfl,ga⟩;(go_wp2_with fail);go_ret;exact ⟨by rw [J.out];rfl,am O ga⟩
def mH (d:Nat) (P:Nd→Prop) (I:Nd→Nat→Bool→List It):Prop:=∀ (v:Value) (n:Nd) (w:World) (deep:Nat) (head:Bool),ax w v n→P n→deep+d≤1000→(tx (I n deep head)).size≤10000000000000000 →
 Calls Tryz.prog 69 #[v,.int .i64 (deep:Int),.bool head] w fun e w'=>e=.returned (.string (tx (I n deep head)))∧Below w.heap.size w w'
theorem DA {F:bj} {n:Nd} (h:cB F n=true):∃ t x p,n=.mk 26 t [x] p∧F.expr x=true:=by obtain ⟨t,l,p,rfl,-,I⟩:=aM (by decide) h;obtain ⟨x,rfl,D⟩:=ec I;exact ⟨t,x,p,rfl,D⟩
theorem Ic {F:bj} {n:Nd} (h:dS F n=true):∃ t x p,n=.mk 28 t [x] p∧F.expr x=true:=by obtain ⟨t,l,p,rfl,-,I⟩:=aM (by decide) h;obtain ⟨x,rfl,D⟩:=ec I;exact ⟨t,x,p,rfl,D⟩
theorem Fo {F:bj} {n:Nd} (h:dJ F n=true):∃ x p,n=.mk 29 (⟨#[]⟩:BA) [x] p∧F.expr x=true:=by obtain ⟨l,p,rfl,I⟩:=cD h;obtain ⟨x,rfl,D⟩:=ec I;unfold fN at D;rw [Bool.and_eq_true] at D;exact ⟨x,p,rfl,D.2⟩
theorem Id {F:bj} {n:Nd} (h:dT F n=true):∃ x y p,n=.mk 27 (⟨#[]⟩:BA) [x,y] p∧F.expr x=true∧F.expr y=true:=by obtain ⟨l,p,rfl,J⟩:=cD h;obtain ⟨x,y,rfl,I,D⟩:=il J;exact ⟨x,y,p,rfl,I,D⟩
theorem DB (F:oX) (t:ByteArray) (x:Nd) (p:Int) (deep:Nat) (head:Bool):tx (ee F (.mk 26 t [x] p) deep head)=t++(⟨#[32,58,61,32]⟩:BA)++tx (F.expr x deep head):=by show tx (ik t::aY::nK (⟨#[58,61]⟩:BA)::aY::F.expr x deep head)=_;rw [aj,aj aY,aj (nK (⟨#[58,61]⟩:BA)),aj aY (F.expr x deep head),lH,ah,←ah (tx [nK (⟨#[58,61]⟩:BA)]),←ah (tx [aY])];rfl
theorem Ie (F:oX) (x y:Nd) (p:Int) (deep:Nat) (head:Bool):tx (ee F (.mk 27 (⟨#[]⟩:BA) [x,y] p) deep head)=tx (F.expr x deep head)++(⟨#[32,61,32]⟩:BA)++tx (F.expr y deep head):=by show tx (F.expr x deep head++(aY::cF 61::aY::F.expr y deep head))=_;rw [aQ,aj,aj (cF 61),aj aY (F.expr y deep head),ah,←ah (tx [cF 61]),←ah (tx [aY])];rfl
theorem If (F:oX) (t:ByteArray) (x:Nd) (p:Int) (deep:Nat) (head:Bool):tx (ee F (.mk 28 t [x] p) deep head)=tx (F.expr x deep head)++t:=by show tx (F.expr x deep head++[nK t])=_;rw [aQ,Dk]
theorem Ab (d:Nat) (q:dP d):mH d (fun n=>cB (aa d) n=true∨dS (aa d) n=true) (ee (an d)):=by
 intro v n w deep head hv O hd hM;obtain ⟨k,t,x,p,rfl,D,U⟩:∃ k t x p,n=.mk k t [x] p∧(aa d).expr x=true∧(k=26∨k=28):=by
  rcases O with h | h
  ·obtain ⟨t,x,p,rfl,D⟩:=DA h;exact ⟨26,t,x,p,rfl,D,.inl rfl⟩
  ·obtain ⟨t,x,p,rfl,D⟩:=Ic h;exact ⟨28,t,x,p,rfl,D,.inr rfl⟩
 have K:Hid (tx (ee (an d) (.mk k t [x] p) deep head)=if k=26 then t++(⟨#[32,58,61,32]⟩:BA)++tx ((an d).expr x deep head) else tx ((an d).expr x deep head)++t):=by
  refine hid ?_;rcases U with rfl | rfl
  ·exact DB _ t x p deep head
  ·exact If _ t x p deep head
 rw [K.out] at hM;obtain ⟨A,cp,rfl,u⟩:=hv.toC;simp only [Nd.kind_mk,Nd.text_mk,Nd.kids_mk,Nd.pos_mk] at *;have hB:=(ae w #[.int .i64 k,.string t,.slice A 1 cp,.int .i64 p]).1;have I:ax w (.agg #[.int .i64 k,.string t,.slice A 1 cp,.int .i64 p]) (.mk k t [x] p):=hv;have j:=(ae w #[.int .i64 k,.string t,.slice A 1 cp,.int .i64 p]).2;obtain ⟨bp,op,A2,c2,rfl,J⟩:=cH (ai.below I hB) 0 (by simp);simp only [Nd.kids_mk,List.getElem_cons_zero,Nat.zero_mul,Nat.add_zero] at J;clear hv u I O;rcases U with rfl | rfl;rw [if_pos rfl] at K hM;(go_enter Tryz.func69,Tryz.ntmps69);go_upto_region 6 with fail
 rotate_left
 rw [if_neg (by decide)] at K hM;(go_enter Tryz.func69,Tryz.ntmps69);go_upto_region 10 with fail
 rotate_left
 all_goals simp only [ByteArray.size_append] at hM;generalize w.alloc (.cells #[.int .i64 _,.string _,.slice (some ⟨bp,op,none⟩) 1 cp,.int .i64 p] 24)=W at *;have N:=hid (fun m:Wd (Below W.heap.size W)=>q _ x m.wd deep head (J.below m.ok).2.2.2.2 D hd (by omega));obtain ⟨k0,k1,k2,k3⟩:=p8 J;obtain ⟨n0,n1,n2,n3⟩:=Aa j;generalize tx ((an d).expr x deep head)=X at *;clear j J q D;refine dl W ?_;(repeat (go_big_quiet_step ((go_at_call 15;rename_i m;with_reducible exact oT N.out m))));refine wpQuiet_nil ?_;intro m;have M:=am hB m.ok;(go_wp2_with fail);go_ret;exact ⟨by rw [K.out];rfl,M⟩
theorem DC (d:Nat) (O:dP d):mH d (fun n=>dJ (aa d) n=true) (ee (an d)):=by intro v n w deep head hv hn hd hM;obtain ⟨x,p,rfl,M⟩:=Fo hn;have N:=hid (show tx (ee (an d) (.mk 29 (⟨#[]⟩:BA) [x] p) deep head)=tx ((an d).expr x deep head) from rfl);rw [N.out] at hM;obtain ⟨A,cp,rfl,U⟩:=hv.toC;simp only [Nd.kind_mk,Nd.text_mk,Nd.kids_mk,Nd.pos_mk] at *;have hB:=(ae w #[.int .i64 29,.string (⟨#[]⟩:BA),.slice A 1 cp,.int .i64 p]).1;have D:ax w (.agg #[.int .i64 29,.string (⟨#[]⟩:BA),.slice A 1 cp,.int .i64 p]) (.mk 29 (⟨#[]⟩:BA) [x] p):=hv;obtain ⟨bp,op,q,c2,rfl,I⟩:=cH (ai.below D hB) 0 (by simp);simp only [Nd.kids_mk,List.getElem_cons_zero,Nat.zero_mul,Nat.add_zero] at I;have K:=hid (O _ x _ deep head I.2.2.2.2 M hd hM);obtain ⟨j,h,p2,p3,-⟩:=I;generalize tx ((an d).expr x deep head)=X at *;clear hv U D hn O M;(go_enter Tryz.func69,Tryz.ntmps69);(go_wp2_with fail);refine K.out.mono ?_;rintro e w3 ⟨rfl,J⟩;(go_wp2_with fail);go_ret;exact ⟨by rw [N.out];rfl,am hB J⟩
theorem Fp (d:Nat) (O:dP d):mH d (fun n=>dT (aa d) n=true) (ee (an d)):=by
 intro v n w deep head hv hn hd hM;obtain ⟨x,y,p,rfl,h,U⟩:=Id hn;have j:=hid (Ie (an d) x y p deep head);rw [j.out,ByteArray.size_append,ByteArray.size_append] at hM;obtain ⟨A,cp,rfl,q⟩:=hv.toC;simp only [Nd.kind_mk,Nd.text_mk,Nd.kids_mk,Nd.pos_mk] at *;have hB:=(ae w #[.int .i64 27,.string (⟨#[]⟩:BA),.slice A 2 cp,.int .i64 p]).1;have D:ax w (.agg #[.int .i64 27,.string (⟨#[]⟩:BA),.slice A 2 cp,.int .i64 p]) (.mk 27 (⟨#[]⟩:BA) [x,y] p):=hv;obtain ⟨bp,op,A2,c2,A3,c3,rfl,J,I⟩:=ya (ai.below D hB);clear hv q D hn;(go_enter Tryz.func69,Tryz.ntmps69);(go_upto_region 8 with fail);generalize w.alloc (.cells #[.int .i64 27,.string (⟨#[]⟩:BA),.slice (some ⟨bp,op,none⟩) 2 cp,.int .i64 p] 24)=W at *;have N:=hid (fun m:Wd (Below W.heap.size W)=>O _ x m.wd deep head (J.below m.ok).2.2.2.2 h hd (by omega));have M:=hid (fun m:Wd (Below W.heap.size W)=>O _ y m.wd deep head (I.below m.ok).2.2.2.2 U hd (by omega));obtain ⟨k0,k1,k2,u⟩:=p8 J;obtain ⟨b0,b1,b2,b3⟩:=p8 I;generalize tx ((an d).expr x deep head)=X at *;generalize tx ((an d).expr y deep head)=Y at *;clear J I O h U;refine dl W ?_;repeat (go_big_quiet_step (first
  | (go_at_call 15;rename_i m;with_reducible exact oT N.out m)
  | (go_at_call 15;rename_i m;with_reducible exact oT M.out m)))
 refine wpQuiet_nil ?_;intro m;have K:=am hB m.ok;(go_wp2_with fail);go_ret;exact ⟨by rw [j.out];rfl,K⟩
def DD (d:Nat) (n:Nd):Prop:=cB (aa d) n=true∨dT (aa d) n=true∨dS (aa d) n=true∨dJ (aa d) n=true
theorem sY (d:Nat) (D:dP d):mH d (DD d) (ee (an d)):=by
 intro v n w deep head hv I hd hM;rcases I with h | h | h | h
 ·exact Ab d D v n w deep head hv (.inl h) hd hM
 ·exact Fp d D v n w deep head hv h hd hM
 ·exact Ab d D v n w deep head hv (.inr h) hd hM
 ·exact DC d D v n w deep head hv h hd hM
theorem Fq {d:Nat} {o:Nd} (h:(aa d).block o=true):(aa d).stmt o=true:=by
 cases d with
 | zero=>cases h
 | succ d=>have h:bm (aa d) o=true:=h;(have D:o.kind=36:=by unfold bm at h;rw [Bool.and_eq_true,decide_eq_true_eq] at h;exact h.1);show av (aa d) o=true;unfold av;rw [if_neg (by omega),if_neg (by omega),if_neg (by omega),if_neg (by omega),if_neg (by omega),if_neg (by omega),if_neg (by omega),if_neg (by omega),if_neg (by omega),if_neg (by omega)];exact h
theorem Fr {d:Nat} {o:Nd} (h:(aa d).ifS o=true):(aa d).stmt o=true:=by
 cases d with
 | zero=>cases h
 | succ d=>have h:uL (aa d) o=true:=h;(have D:o.kind=30:=by obtain ⟨l,p,rfl,-⟩:=cD h;rfl);show av (aa d) o=true;unfold av;rw [if_neg (by omega),if_neg (by omega),if_neg (by omega),if_neg (by omega),if_neg (by omega),if_pos D];exact h
theorem IB {d:Nat} {n:Nd} (h:uL (aa d) n=true):∃ c b o p,n=.mk 30 (⟨#[]⟩:BA) [c,b,o] p∧(aa d).expr c=true∧(aa d).block b=true∧(ag o=true∨(aa d).stmt o=true):=by obtain ⟨l,p,rfl,J⟩:=cD h;obtain ⟨c,b,o,rfl,I,hb,D⟩:=AU J;unfold bI at D;rw [Bool.or_eq_true,Bool.or_eq_true] at D;exact ⟨c,b,o,p,rfl,I,hb,D.elim (fun h=>h.imp id Fq) fun h=>.inr (Fr h)⟩
theorem IC (F:oX) (c b o:Nd) (p:Int) (deep:Nat) (head:Bool):tx (dF F (.mk 30 (⟨#[]⟩:BA) [c,b,o] p) deep head)=(⟨#[105,102,32]⟩:BA)++tx (F.expr c deep true)++(⟨#[32]⟩:BA)++tx (F.block b deep)++(if o.kind=0 then (⟨#[]⟩:BA) else (⟨#[32,101,108,115,101,32]⟩:BA)++tx (F.stmt o deep false)):=by
 show tx (fB (⟨#[105,102]⟩:BA)::aY::(F.expr c deep true++(aY::(F.block b deep++(if o.kind=0 then [] else aY::fB (⟨#[101,108,115,101]⟩:BA)::aY::F.stmt o deep false)))))=_;rw [aj,aj aY (F.expr c deep true++_),aQ,aj aY (F.block b deep++_),aQ,ah,ah,ah,←ah (tx [fB (⟨#[105,102]⟩:BA)])];congr 4;split
 ·rfl
 ·rw [aj,aj (fB (⟨#[101,108,115,101]⟩:BA)),aj aY (F.stmt o deep false),←ah,←ah];rfl
theorem Fs (d:Nat) (HE:dP d) (M:ii d) (HS:p4 d):mH d (fun n=>uL (aa d) n=true) (dF (an d)):=by
 intro v n w deep head hv hn hd hM;obtain ⟨c,b,o,p,rfl,hc,hb,ho⟩:=IB hn;have K:=hid (IC (an d) c b o p deep head);rw [K.out] at hM;simp only [ByteArray.size_append] at hM;obtain ⟨A,cp,rfl,hC⟩:=hv.toC;simp only [Nd.kind_mk,Nd.text_mk,Nd.kids_mk,Nd.pos_mk] at *;have hB:=(ae w #[.int .i64 30,.string (⟨#[]⟩:BA),.slice A 3 cp,.int .i64 p]).1;have J:ax w (.agg #[.int .i64 30,.string (⟨#[]⟩:BA),.slice A 3 cp,.int .i64 p]) (.mk 30 (⟨#[]⟩:BA) [c,b,o] p):=hv;obtain ⟨bp,op,A2,c2,A3,c3,A4,c4,rfl,U,O,N⟩:=IA (ai.below J hB);clear hv hC J hn;(go_enter Tryz.func69,Tryz.ntmps69);(go_upto_region 14 with fail);generalize w.alloc (.cells #[.int .i64 30,.string (⟨#[]⟩:BA),.slice (some ⟨bp,op,none⟩) 3 cp,.int .i64 p] 24)=W at *;have u:=hid (oT fun m:Wd (Below W.heap.size W)=>HE _ c m.wd deep true (U.below m.ok).2.2.2.2 hc hd (by omega));have q:=hid (oT fun m:Wd (Below W.heap.size W)=>M _ b m.wd deep (O.below m.ok).2.2.2.2 hb hd (by omega));have j:=hid (fun (h:o.kind≠0) (hm:(tx ((an d).stmt o deep false)).size≤10000000000000000)=>oT fun m:Wd (Below W.heap.size W)=>HS _ o m.wd deep (N.below m.ok).2.2.2.2 (fj ho h) hd hm);obtain ⟨k0,k1,k2,k3⟩:=p8 U;obtain ⟨b0,b1,b2,b3⟩:=p8 O;obtain ⟨D,r1,r2,r3⟩:=p8 N;generalize tx ((an d).expr c deep true)=X at *;generalize tx ((an d).block b deep)=Y at *;generalize tx ((an d).stmt o deep false)=Z at *;clear U O N HE M HS hc hb ho;refine dl W ?_;repeat (go_big_quiet_step (first
  | (go_at_call 15;rename_i m;exact u.out m)
  | (go_at_call 39;rename_i m;exact q.out m)))
 refine wpQuiet_nil ?_;intro m;by_cases I:o.kind=0
 ·rw [if_pos I] at K hM;rw [I] at D;have D:=D m;(go_wp2_with fail);go_ret;exact ⟨by rw [K.out,lB];rfl,am hB m.ok⟩
 ·rw [if_neg I] at K hM;rw [ByteArray.size_append] at hM;(have e0:(o.kind != 0)=true:=by simpa using I);have HZ:=hid (j.out I (by omega) m);have D:=D m;have r1:=r1 m;have r2:=r2 m;have r3:=r3 m;(go_wp2_with fail);refine HZ.out.mono ?_;rintro e w3 ⟨rfl,m',rfl⟩;(go_wp2_with fail);go_ret;exact ⟨by rw [K.out];rfl,am hB m'.ok⟩
theorem Ft (d:Nat) (U:dP d):mH d (fun n=>bQ 33 [bI ag (aa d).expr] n=true) (dF (an d)):=by
 intro v n w deep head hv hn hd hM;obtain ⟨l,p,rfl,D⟩:=cD hn;obtain ⟨x,rfl,K⟩:=ec D;unfold bI at K;rw [Bool.or_eq_true] at K;have J:Hid (tx (dF (an d) (.mk 33 (⟨#[]⟩:BA) [x] p) deep head)=if x.kind=0 then (⟨#[114,101,116,117,114,110]⟩:BA) else (⟨#[114,101,116,117,114,110,32]⟩:BA)++tx ((an d).expr x deep false)):=by
  refine hid ?_;show tx (fB (⟨#[114,101,116,117,114,110]⟩:BA)::(if x.kind=0 then [] else aY::(an d).expr x deep false))=_;rw [aj,ux];split
  ·rfl
  ·rw [aj,←ah];rfl
 rw [J.out] at hM;obtain ⟨A,cp,rfl,u⟩:=hv.toC;simp only [Nd.kind_mk,Nd.text_mk,Nd.kids_mk,Nd.pos_mk] at *;have hB:=(ae w #[.int .i64 33,.string (⟨#[]⟩:BA),.slice A 1 cp,.int .i64 p]).1;have I:ax w (.agg #[.int .i64 33,.string (⟨#[]⟩:BA),.slice A 1 cp,.int .i64 p]) (.mk 33 (⟨#[]⟩:BA) [x] p):=hv;obtain ⟨bp,op,A2,c2,rfl,M⟩:=cH (ai.below I hB) 0 (by simp);simp only [Nd.kids_mk,List.getElem_cons_zero,Nat.zero_mul,Nat.add_zero] at M;have O:=hid (fun (h:x.kind≠0) (q:(tx ((an d).expr x deep false)).size≤10000000000000000)=>U _ x _ deep false M.2.2.2.2 (fj K h) hd q);obtain ⟨j,p1,p2,p3,-⟩:=M;generalize tx ((an d).expr x deep false)=X at *;clear hv u I hn D U K;by_cases D:x.kind=0
 ·rw [if_pos D] at J;rw [D] at j;(go_enter Tryz.func69,Tryz.ntmps69);(go_wp2_with fail);go_ret;exact ⟨by rw [J.out];rfl,hB⟩
 ·rw [if_neg D,ByteArray.size_append] at hM;rw [if_neg D] at J;(have e0:(x.kind==0)=false:=by simpa using D);have HX:=hid (O.out D (by omega));(go_enter Tryz.func69,Tryz.ntmps69);(go_wp2_with fail);refine HX.out.mono ?_;rintro e w3 ⟨rfl,N⟩;(go_wp2_with fail);go_ret;exact ⟨by rw [J.out];rfl,am hB N⟩
theorem Fu (d:Nat):mH d (fun n=>n.kind=34∨n.kind=35) (dF (an d)):=by intro v n w deep head hv D hd hM;(have I:Hid (tx (dF (an d) n deep head)=if n.kind=34 then (⟨#[98,114,101,97,107]⟩:BA) else (⟨#[99,111,110,116,105,110,117,101]⟩:BA)):=by refine hid ?_;unfold dF;rw [if_neg (by omega),if_neg (by omega),if_neg (by omega),if_neg (by omega),if_neg (by omega),if_neg (by omega),if_neg (by omega),if_neg (by omega),if_neg (by omega)];rcases D with h | h <;> rw [h] <;> rfl);obtain ⟨A,cp,rfl,J⟩:=hv.toC;have hB:=(ae w #[.int .i64 n.kind,.string n.text,.slice A n.kids.length cp,.int .i64 n.pos]).1;clear hv J hd hM;rcases D with h | h <;> rw [h] at hB I ⊢;all_goals (go_enter Tryz.func69,Tryz.ntmps69);(go_wp2_with fail);go_ret;exact ⟨by rw [I.out];rfl,hB⟩
theorem DE (d:Nat) (N:dP d):mH d (fun n=>n.kind=5∧fd (aa d) n=true) (dF (an d)):=by intro v n w deep head hv D hd hM;obtain ⟨D,J⟩:=D;(have M:Hid (tx (dF (an d) n deep head)=tx (nW (an d) n deep)):=by refine hid ?_;unfold dF;rw [if_pos D]);rw [M.out] at hM;obtain ⟨A,cp,rfl,O⟩:=hv.toC;have hB:=(ae w #[.int .i64 n.kind,.string n.text,.slice A n.kids.length cp,.int .i64 n.pos]).1;have K:=hid (uD d N _ n _ deep (ai.below hv hB) J hd hM);generalize tx (nW (an d) n deep)=X at *;clear hv O J N;rw [D] at hB K ⊢;(go_enter Tryz.func69,Tryz.ntmps69);(go_wp2_with fail);refine K.out.mono ?_;rintro e w3 ⟨rfl,I⟩;(go_wp2_with fail);go_ret;exact ⟨by rw [M.out];rfl,am hB I⟩
theorem DF (d:Nat) (N:p4 d) (v:Value) (n:Nd) (w:World) (deep:Nat) (head:Bool) (I:ax w v n) (D:bm (aa d) n=true) (hd:deep+d+1≤1000) (K:(tx (dF (an d) n deep head)).size≤10000000000000000) :
  Calls Tryz.prog 69 #[v,.int .i64 (deep:Int),.bool head] w fun e w'=>e=.returned (.string (tx (dF (an d) n deep head)))∧Below w.heap.size w w':=by (have U:n.kind=36:=by unfold bm at D;rw [Bool.and_eq_true,decide_eq_true_eq] at D;exact D.1);(have O:Hid (tx (dF (an d) n deep head)=tx (nz (an d) n deep)):=by refine hid ?_;unfold dF;rw [if_neg (by omega),if_neg (by omega),if_neg (by omega),if_neg (by omega),if_neg (by omega),if_neg (by omega),if_neg (by omega),if_neg (by omega),if_neg (by omega),if_neg (by omega),if_neg (by omega)]);rw [O.out] at K;obtain ⟨A,cp,rfl,h⟩:=I.toC;have hB:=(ae w #[.int .i64 n.kind,.string n.text,.slice A n.kids.length cp,.int .i64 n.pos]).1;have M:=hid (ra d N _ n _ deep (ai.below I hB) D hd K);generalize tx (nz (an d) n deep)=X at *;clear I h D N;rw [U] at hB M ⊢;(go_enter Tryz.func69,Tryz.ntmps69);(go_wp2_with fail);refine M.out.mono ?_;rintro e w3 ⟨rfl,J⟩;(go_wp2_with fail);go_ret;exact ⟨by rw [O.out];rfl,am hB J⟩
def rB (c:UInt8):List UInt8:=if c=44 then [44,32] else [c]
def DG (s:ByteArray) (i:Nat):ByteArray:=eg (((bytes s).take i).flatMap rB)
theorem nG:∀ l:List UInt8,l.all (fun c=>fo c||cY c)=true→l.flatMap rB=l
 | [],_=>rfl
 | c::l,h=>by rw [List.all_cons,Bool.and_eq_true] at h;(have D:c≠44:=by rintro rfl;exact absurd h.1 (by decide));rw [List.flatMap_cons,nG l h.2];unfold rB;rw [if_neg D];rfl
theorem mZ {l:List UInt8} (h:aw ⟨l.toArray⟩=true):l.all (fun c=>fo c||cY c)=true∧l.length≤100:=by
 unfold aw cz at h;simp only [Bool.and_eq_true,decide_eq_true_eq] at h;refine ⟨?_,h.1⟩;have D:bL l=true:=h.2.1;cases l with
 | nil=>rfl
 | cons c l=>unfold bL at D;rw [Bool.and_eq_true] at D;rw [List.all_cons,D.1,D.2];rfl
theorem DH {x:ByteArray} (h:be x=true) (N:x≠(⟨#[]⟩:BA)):tx (fi x)=DG x x.size++(⟨#[32,58,61,32]⟩:BA)∧x.size≤201:=by
 unfold be at h;rw [decide_eq_false N,Bool.false_or,Bool.or_eq_true,Bool.and_eq_true,Bool.and_eq_true,Bool.and_eq_true] at h;unfold fi DG;rw [if_neg N,aQ,show (bytes x).take x.size=bytes x from List.take_of_length_le (Nat.le_refl _),show tx [aY,nK (⟨#[58,61]⟩:BA),aY]=(⟨#[32,58,61,32]⟩:BA) from rfl];rcases h with ⟨D,K,M⟩ | ⟨D,K⟩
 ·rw [if_pos D];have J:bytes x=_:=yI x.data.toList D;unfold bA at M;rw [Bool.and_eq_true] at M;obtain ⟨c1,I⟩:=mZ K;obtain ⟨c2,j⟩:=mZ M.1;refine ⟨?_,?_⟩
  ·congr 1;apply cj;rw [mq,bN,J,List.flatMap_append,List.flatMap_cons];have U:=nG _ c1;have O:=nG _ c2;unfold eK at U O ⊢;rw [U,O];simp [dA,Im,cF,aY,rB]
  ·have:=congrArg List.length J;rw [List.length_append,List.length_cons] at this;unfold eK at I j;rw [ck] at this;omega
 ·(have D:(eK x).2.2=false:=by simpa using D);have J:_=bytes x:=CM x.data.toList D;unfold bA at K;rw [Bool.and_eq_true] at K;obtain ⟨c1,I⟩:=mZ K.1;unfold eK at D c1 I ⊢;rw [J] at c1 I;rw [if_neg (by rw [D];decide),J,nG _ c1];exact ⟨by rw [pU];rfl,by rw [ck] at I;omega⟩
theorem Ac (s:ByteArray) (i:Nat) (h:i<s.size):DG s (i+1)=DG s i++eg (rB ((bytes s).getD i 0)):=by have D:i<(bytes s).length:=h;unfold DG;rw [←yc,List.take_succ_eq_append_getElem D,List.flatMap_append,List.flatMap_cons,List.flatMap_nil,List.append_nil,List.getD_eq_getElem?_getD,List.getElem?_eq_getElem D];rfl
theorem F6 (s:ByteArray):∀ i,i≤s.size→(DG s i).size≤2 * i
 | 0,_=>by unfold DG;rw [List.take_zero];exact Nat.le_refl _
 | i+1,h=>by have:=F6 s i (by omega);(have D:(eg (rB ((bytes s).getD i 0))).size≤2:=by show (rB _).length≤2;unfold rB;split <;> simp);rw [Ac s i (by omega),ByteArray.size_append];omega
theorem DI {F:bj} {n:Nd} (h:bQ 32 [F.expr,F.block] (aq be n)=true):∃ t x b p,n=.mk 32 t [x,b] p∧be t=true∧F.expr x=true∧F.block b=true:=by obtain ⟨t,l,p,rfl,I,J⟩:=aM (by decide) h;obtain ⟨x,b,rfl,D,hb⟩:=il J;exact ⟨t,x,b,p,rfl,I,D,hb⟩
theorem Ig (F:oX) (t:ByteArray) (x b:Nd) (p:Int) (deep:Nat) (head:Bool):tx (dF F (.mk 32 t [x,b] p) deep head)=(⟨#[102,111,114,32]⟩:BA)++tx (fi t)++(⟨#[114,97,110,103,101,32]⟩:BA)++tx (F.expr x deep true)++(⟨#[32]⟩:BA)++tx (F.block b deep):=by show tx (fB (⟨#[102,111,114]⟩:BA)::aY::(fi t++(fB (⟨#[114,97,110,103,101]⟩:BA)::aY::(F.expr x deep true++(aY::F.block b deep)))))=_;rw [aj,aj aY,aQ,aj (fB (⟨#[114,97,110,103,101]⟩:BA)),aj aY (F.expr x deep true++_),aQ,aj aY (F.block b deep),←ah (tx [fB (⟨#[102,111,114]⟩:BA)]),show tx [fB (⟨#[102,111,114]⟩:BA)]++tx [aY]=(⟨#[102,111,114,32]⟩:BA) from rfl,←ah (tx [fB (⟨#[114,97,110,103,101]⟩:BA)]),show tx [fB (⟨#[114,97,110,103,101]⟩:BA)]++tx [aY]=(⟨#[114,97,110,103,101,32]⟩:BA) from rfl];simp only [ah];rfl
theorem Fw (d:Nat) (HE:dP d) (M:ii d):mH d (fun n=>bQ 32 [(aa d).expr,(aa d).block] (aq be n)=true) (dF (an d)):=by
 intro v n w deep head hv hn hd hM;obtain ⟨t,x,b,p,rfl,ht,hx,hb⟩:=DI hn;have u:=hid (Ig (an d) t x b p deep head);rw [u.out] at hM;simp only [ByteArray.size_append] at hM;have K:=hid (fun h:t≠(⟨#[]⟩:BA)=>DH ht h);obtain ⟨A,cp,rfl,hC⟩:=hv.toC;simp only [Nd.kind_mk,Nd.text_mk,Nd.kids_mk,Nd.pos_mk] at *;have hB:=(ae w #[.int .i64 32,.string t,.slice A 2 cp,.int .i64 p]).1;have U:ax w (.agg #[.int .i64 32,.string t,.slice A 2 cp,.int .i64 p]) (.mk 32 t [x,b] p):=hv;have hN:=(ae w #[.int .i64 32,.string t,.slice A 2 cp,.int .i64 p]).2;obtain ⟨bp,op,A2,c2,A3,c3,rfl,q,j⟩:=ya (ai.below U hB);clear hv hC U hn;(go_enter Tryz.func69,Tryz.ntmps69);(go_wp2_with fail);generalize w.alloc (.cells #[.int .i64 32,.string t,.slice (some ⟨bp,op,none⟩) 2 cp,.int .i64 p] 24)=W at *;go_loopg [10,11] t.size (fun k u10 u11 wr=>∃ i:Nat,i≤t.size∧t.size-i≤k∧u11=.int .i64 (i:Int)∧u10=.string ((⟨#[102,111,114,32]⟩:BA)++DG t i)∧W=wr)
 case atStart=>exact ⟨0,Nat.zero_le _,by omega,rfl,rfl,rfl⟩
 case round=>
  obtain ⟨i,hi,hk,rfl,rfl,rfl⟩:=hrel;have gg:=F6 t i hi;obtain ⟨n0,n1,n2,n3,-,-,-,-⟩:=ac hN;by_cases I:i<t.size
  ·(have D:t≠(⟨#[]⟩:BA):=by rintro rfl;exact absurd I (Nat.not_lt_zero _));have N:=(K.out D).2;(have O:(i:Int)<(t.size:Int):=by omega);have ge:=fun W=>sb t i I W;have HS:=hid (Ac t i I);have HO:=hid (Dr t i I);have gh:=eH t i;have J:ab t i=((bytes t).getD i 0).toNat:=rfl;generalize (bytes t).getD i 0=c at *;generalize ab t i=cn at *;generalize DG t i=S at *;(have p0:(0:Int)≤(i:Int):=by omega);(have p1:(i:Int)≤(t.size:Int):=by omega);(have p2:(0:Int)≤(i:Int)+1:=by omega);(have p3:(i:Int)+1≤(t.size:Int):=by omega);have q1:IntKind.i64.wrap ((i:Int)+1)=(i:Int)+1:=IntWalk.i64_in _ (by omega);(have q2:((i:Int)+1).toNat=i+1:=by omega);(have hz:(t.extract i (i+1)).size=1:=by rw [HO.out];rfl);clear q j HE M hx hb;by_cases c1:c=44
   ·subst c1;obtain rfl:cn=44:=J;(go_wp2_with fail);go_roundg (t.size-(i+1))
    case measure=>omega
    case rel=>exact ⟨i+1,by omega,Nat.le_refl _,by go_num,by rw [HS.out,HO.out];simp only [ah];rfl,rfl⟩
   ·(have e1:((cn:Int)==44)=false:=by rw [beq_eq_false_iff_ne];intro h;refine c1 ?_;rw [←UInt8.toNat_inj,←J];show cn=44;omega);rw [show eg (rB c)=⟨#[c]⟩ by unfold rB;rw [if_neg c1];rfl] at HS;clear J c1;(go_wp2_with fail);go_roundg (t.size-(i+1))
    case measure=>omega
    case rel=>exact ⟨i+1,by omega,Nat.le_refl _,by go_num,by rw [HS.out,HO.out];simp only [ah],rfl⟩
  ·(have O:¬ (i:Int)<(t.size:Int):=by omega);(obtain rfl:i=t.size:=by omega);have gd:=hid (oT fun m:Wd (Below W.heap.size W)=>HE _ x m.wd deep true (q.below m.ok).2.2.2.2 hx hd (by omega));have gb:=hid (oT fun m:Wd (Below W.heap.size W)=>M _ b m.wd deep (j.below m.ok).2.2.2.2 hb hd (by omega));obtain ⟨k0,k1,k2,k3⟩:=p8 q;obtain ⟨b0,b1,b2,b3⟩:=p8 j;generalize tx ((an d).expr x deep true)=X at *;generalize tx ((an d).block b deep)=Y at *;clear q j HE M hx hb hi hk hN;have H0:=hid (fun h:t=(⟨#[]⟩:BA)=>show tx (fi t)=DG t t.size by subst h;rfl);generalize DG t t.size=S at *;by_cases D:t=(⟨#[]⟩:BA);(have ga:t.toList.isEmpty=true:=by rw [af];simpa using D);(have N:t.size≤201:=by rw [D];exact Nat.zero_le _);rw [H0.out D] at u hM
   rotate_left
   (have ga:t.toList.isEmpty=false:=by rw [af];simpa using D);have N:=(K.out D).2;rw [(K.out D).1] at u hM;rw [ByteArray.size_append] at hM
   rotate_left
   all_goals
    clear D;(go_wp2_with fail);refine dl W ?_;repeat (go_big_quiet_step (first
     | (go_at_call 15;rename_i m;exact gd.out m)
     | (go_at_call 39;rename_i m;exact gb.out m)))
    refine wpQuiet_nil ?_;intro m;(go_wp2_with fail);go_ret;exact ⟨by rw [u.out];simp only [ah];rfl,am hB m.ok⟩
end
end Go.Proofs.YtiebcdeafofgdaaGreatDoor
