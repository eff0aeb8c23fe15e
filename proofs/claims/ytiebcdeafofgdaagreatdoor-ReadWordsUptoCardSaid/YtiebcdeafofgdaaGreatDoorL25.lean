/-
  Parts of the proof: Pxc Pxe Pxf Pxg Uexpr4 Uexpr. By an AI agent.
-/
import Derived.Test.YtiebcdeafofgdaaGreatDoorL24
import Derived.Test.YtiebcdeafofgdaaGreatDoorL09
import Derived.Test.YtiebcdeafofgdaaGreatDoorL20
set_option maxRecDepth 100000
set_option maxHeartbeats 8000000
namespace Go.Proofs.YtiebcdeafofgdaaGreatDoor
section
open Go.RowKit Go.Lib Go.Proofs
attribute [local go_sem ↓] Go.wp_at_zero Go.wp_at_succ
theorem Ih {d:Nat} {n:Nd} (h:bQ 31 [bI (bI ag (cB (aa d))) (bI (dT (aa d)) (dS (aa d))),bI ag (aa d).expr,bI (bI ag (dT (aa d))) (bI (dS (aa d)) (dJ (aa d))),(aa d).block] n=true) :
  ∃ a c u b p,n=.mk 31 (⟨#[]⟩:BA) [a,c,u,b] p∧(ag a=true∨DD d a)∧(ag c=true∨(aa d).expr c=true)∧(ag u=true∨DD d u)∧(aa d).block b=true:=by
 obtain ⟨l,p,rfl,K⟩:=cD h;obtain ⟨a,c,u,b,rfl,J,I,D,hb⟩:=Gz K;unfold bI at J I D;simp only [Bool.or_eq_true] at J I D;refine ⟨a,c,u,b,p,rfl,?_,I,?_,hb⟩ <;> unfold DD
 ·rcases J with (h | h) | h | h <;> simp [h]
 ·rcases D with (h | h) | h | h <;> simp [h]
theorem Fx (l:List It):tx (cF 59::aY::l)=(⟨#[59,32]⟩:BA)++tx l:=by rw [aj,aj aY,←ah];rfl
theorem Ii (F:oX) (a c u b:Nd) (p:Int) (deep:Nat) (head:Bool):tx (dF F (.mk 31 (⟨#[]⟩:BA) [a,c,u,b] p) deep head) =
  (⟨#[102,111,114,32]⟩:BA)++(if a.kind=0∧u.kind=0 then (if c.kind=0 then (⟨#[]⟩:BA) else tx (F.expr c deep true)++(⟨#[32]⟩:BA)) else (if a.kind=0 then (⟨#[]⟩:BA) else tx (ee F a deep true))++(⟨#[59,32]⟩:BA)++(if c.kind=0 then (⟨#[]⟩:BA) else tx (F.expr c deep true))++(⟨#[59,32]⟩:BA)++(if u.kind=0 then (⟨#[]⟩:BA) else tx (ee F u deep true)++(⟨#[32]⟩:BA)))++tx (F.block b deep):=by show tx (fB (⟨#[102,111,114]⟩:BA)::aY::(rq F (.mk 31 (⟨#[]⟩:BA) [a,c,u,b] p) deep++F.block b deep))=_;rw [aj,aj aY,aQ,←ah,←ah];refine congrArg (· ++ tx (F.block b deep)) (congrArg ((⟨#[102,111,114,32]⟩:BA) ++ ·) ?_);unfold rq;by_cases J:a.kind=0 <;> by_cases I:c.kind=0 <;> by_cases D:u.kind=0 <;> simp [J,I,D,aJ,aQ,Fx,wZ,pV,ah,fu]
theorem DJ (d:Nat) (HE:dP d) (j:ii d):mH d (fun n=>bQ 31 [bI (bI ag (cB (aa d))) (bI (dT (aa d)) (dS (aa d))),bI ag (aa d).expr,bI (bI ag (dT (aa d))) (bI (dS (aa d)) (dJ (aa d))),(aa d).block] n=true) (dF (an d)):=by
 intro v n w deep head hv hn hd hM;obtain ⟨a,c,u,b,p,rfl,M,K,J,hb⟩:=Ih hn;have HR:=hid (Ii (an d) a c u b p deep head);rw [HR.out] at hM;obtain ⟨A,cp,rfl,hC⟩:=hv.toC;simp only [Nd.kind_mk,Nd.text_mk,Nd.kids_mk,Nd.pos_mk] at *;have hB:=(ae w #[.int .i64 31,.string (⟨#[]⟩:BA),.slice A 4 cp,.int .i64 p]).1;have I:ax w (.agg #[.int .i64 31,.string (⟨#[]⟩:BA),.slice A 4 cp,.int .i64 p]) (.mk 31 (⟨#[]⟩:BA) [a,c,u,b] p):=hv;obtain ⟨bp,op,A1,c1,rfl,hp⟩:=cH (ai.below I hB) 0 (by simp);obtain ⟨_,_,A2,c2,e,hq⟩:=cH (ai.below I hB) 1 (by simp);injection e with e;injection e with e1 e2;subst e1 e2;obtain ⟨_,_,A3,c3,e,hr⟩:=cH (ai.below I hB) 2 (by simp);injection e with e;injection e with e1 e2;subst e1 e2;obtain ⟨_,_,A4,c4,e,hs⟩:=cH (ai.below I hB) 3 (by simp);injection e with e;injection e with e1 e2;subst e1 e2;simp only [Nd.kids_mk,List.getElem_cons_zero,List.getElem_cons_succ,Nat.zero_mul,Nat.add_zero,Nat.one_mul,Nat.reduceMul] at hp hq hr hs;clear hv hC I hn;(go_enter Tryz.func69,Tryz.ntmps69);(go_upto_region 19 with fail);generalize w.alloc (.cells #[.int .i64 31,.string (⟨#[]⟩:BA),.slice (some ⟨bp,op,none⟩) 4 cp,.int .i64 p] 24)=W at *;have HA:=hid (fun (w':World) (D:Below W.heap.size W w') (h:a.kind≠0) (N:(tx (ee (an d) a deep true)).size≤10000000000000000)=>sY d HE _ a w' deep true (hp.below D).2.2.2.2 (fj M h) hd N);have HC:=hid (fun (w':World) (D:Below W.heap.size W w') (h:c.kind≠0) (N:(tx ((an d).expr c deep true)).size≤10000000000000000)=>HE _ c w' deep true (hq.below D).2.2.2.2 (fj K h) hd N);have HU:=hid (fun (w':World) (D:Below W.heap.size W w') (h:u.kind≠0) (N:(tx (ee (an d) u deep true)).size≤10000000000000000)=>sY d HE _ u w' deep true (hr.below D).2.2.2.2 (fj J h) hd N);have HD:=hid (fun (w':World) (D:Below W.heap.size W w') (N:(tx ((an d).block b deep)).size≤10000000000000000)=>j _ b w' deep (hs.below D).2.2.2.2 hb hd N);have O:=hid (show _∧_∧_∧_ from ⟨hp,hq,hr,hs⟩);generalize tx ((an d).expr c deep true)=C at *;generalize tx ((an d).block b deep)=B at *;generalize tx (ee (an d) a deep true)=X at *;generalize tx (ee (an d) u deep true)=U at *;have D:=Below.refl W.heap.size W;clear hp hq hr hs M K J hb HE j;by_cases M:a.kind=0 <;> by_cases K:c.kind=0 <;> by_cases J:u.kind=0;all_goals
  simp only [M,K,J,and_self,and_true,and_false,if_true,if_false,lB,fu,ByteArray.size_append] at HR hM;obtain ⟨⟨a0,a1,a2,a3,-⟩,⟨q0,q1,q2,q3,-⟩,⟨q,u1,u2,u3,-⟩,⟨s0,s1,s2,s3,-⟩⟩:=O.out;(first | rw [M] at a0 | have za:(a.kind != 0)=true:=by simpa using M);(first | rw [K] at q0 | have zc:(c.kind != 0)=true:=by simpa using K);(first | rw [J] at q | have zu:(u.kind != 0)=true:=by simpa using J);(go_wp2_with fail);repeat
   (first
    | (with_reducible refine (HA.out _ D M (by omega)).mono ?_)
    | (with_reducible refine (HC.out _ D K (by omega)).mono ?_)
    | (with_reducible refine (HU.out _ D J (by omega)).mono ?_)
    | (with_reducible refine (HD.out _ D (by omega)).mono ?_))
   rintro e w3 ⟨rfl,ga⟩
   have D:=am D ga
   clear a0 a1 a2 a3 q0 q1 q2 q3 q u1 u2 u3 s0 s1 s2 s3
   obtain ⟨⟨a0,a1,a2,a3,-⟩,⟨q0,q1,q2,q3,-⟩,⟨q,u1,u2,u3,-⟩,⟨s0,s1,s2,s3,-⟩⟩:=show _∧_∧_∧_ from ⟨O.out.1.below D,O.out.2.1.below D,O.out.2.2.1.below D,O.out.2.2.2.below D⟩
   (try rw [M] at a0)
   (try rw [K] at q0)
   (try rw [J] at q)
   go_wp2_with fail
  go_ret;exact ⟨by rw [HR.out];simp only [ah];rfl,am hB D⟩
theorem Br (d:Nat) (M:dP d) (K:ii d) (N:p4 d):p4 (d+1):=by
 intro v n w deep hv D hd J;(have I:deep+d≤1000:=by omega);have D:av (aa d) n=true:=D;have J:(tx (dF (an d) n deep false)).size≤10000000000000000:=J;show Calls Tryz.prog 69 _ _ fun e w'=>e=.returned (.string (tx (dF (an d) n deep false)))∧Below w.heap.size w w';(have sim:DD d n→26≤n.kind∧n.kind≤29→Calls Tryz.prog 69 #[v,.int .i64 (deep:Int),.bool false] w fun e w'=>e=.returned (.string (tx (dF (an d) n deep false)))∧Below w.heap.size w w':=by intro h hk;rw [sK _ hk] at J ⊢;exact sY d M v n w deep false hv h I J);unfold av at D;by_cases h:n.kind=5
 ·rw [if_pos h] at D;exact DE d M v n w deep false hv ⟨h,D⟩ I J
 rw [if_neg h] at D;by_cases h:n.kind=26
 ·rw [if_pos h] at D;exact sim (.inl D) (by omega)
 rw [if_neg h] at D;by_cases h:n.kind=27
 ·rw [if_pos h] at D;exact sim (.inr (.inl D)) (by omega)
 rw [if_neg h] at D;by_cases h:n.kind=28
 ·rw [if_pos h] at D;exact sim (.inr (.inr (.inl D))) (by omega)
 rw [if_neg h] at D;by_cases h:n.kind=29
 ·rw [if_pos h] at D;exact sim (.inr (.inr (.inr D))) (by omega)
 rw [if_neg h] at D;by_cases h:n.kind=30
 ·rw [if_pos h] at D;exact Fs d M K N v n w deep false hv D I J
 rw [if_neg h] at D;by_cases h:n.kind=31
 ·rw [if_pos h] at D;exact DJ d M K v n w deep false hv D I J
 rw [if_neg h] at D;by_cases h:n.kind=32
 ·rw [if_pos h] at D;exact Fw d M K v n w deep false hv D I J
 rw [if_neg h] at D;by_cases h:n.kind=33
 ·rw [if_pos h] at D;exact Ft d M v n w deep false hv D I J
 rw [if_neg h] at D;by_cases h:n.kind=34∨n.kind=35
 ·exact Fu d v n w deep false hv h I J
 rw [if_neg h] at D;exact DF d N v n w deep false hv D hd J
theorem Fy {α:Type} (s:List It) (f:α→List It) (D:∀ x,1≤(tx (f x)).size):∀ l:List α,l≠[]→0<(tx (bH s (l.map f))).size
 | [],h=>absurd rfl h
 | [x],_=>D x
 | x::y::l,_=>by have:=D x;show 0<(tx (f x++_)).size;rw [aQ,ByteArray.size_append];omega
theorem Fz (F:oX) (t:ByteArray) (x:Nd) (p:Int):tx (dz F (.mk 7 t [x] p))=t++(⟨#[32]⟩:BA)++tx (fD F x):=by show tx (ik t::aY::fD F x)=_;rw [aj,aj aY,lH,pV,ah]
theorem FA (F:oX) (p:Nd):1≤(tx (dz F p)).size:=by unfold dz;rw [aj,aj aY,ByteArray.size_append,ByteArray.size_append];show 1≤_+(1+_);omega
theorem FB {F:bj} {n:Nd} (h:eS F n=true):∃ t x p,n=.mk 7 t [x] p∧(F.typ x||aV F x)=true:=by obtain ⟨t,l,a,rfl,hs,I⟩:=aM (by decide) h;obtain ⟨x,rfl,D⟩:=ec I;refine ⟨t,x,a,rfl,?_⟩;unfold bI ey at D;rw [Bool.or_eq_true,Bool.and_eq_true] at D;rw [Bool.or_eq_true];exact D.imp (fun h=>h.2) id
theorem rb (d:Nat):Fb 56 (aR (aa d)) (fL (an d)):=by
 intro v n w hv hn hM;obtain ⟨l,p,rfl,hl⟩:=sJ hn;have HL:=hid (List.all_eq_true.1 hl);have j:Hid (tx (fL (an d) (.mk 6 (⟨#[]⟩:BA) l p))=_):=hid (Dn (dz (an d)) l);have hS:(tx (bH bo (l.map (dz (an d))))).size≤10000000000000000:=by
  rw [j.out] at hM;split at hM
  ·rename_i h;subst h;exact Nat.zero_le _
  ·rw [ByteArray.size_append,ByteArray.size_append] at hM;omega
 have U:=hid (Fy bo (dz (an d)) (FA _) l);obtain ⟨A,cp,rfl,hC⟩:=hv.toC;have ga:=ms bo (by decide) (dz (an d)) l;have HV:Hid (ax w (.agg #[.int .i64 6,.string (⟨#[]⟩:BA),.slice A l.length cp,.int .i64 p]) (.mk 6 (⟨#[]⟩:BA) l p)):=hid hv;have hB:=(ae w #[.int .i64 6,.string (⟨#[]⟩:BA),.slice A l.length cp,.int .i64 p]).1;have gb:=(ae w #[.int .i64 6,.string (⟨#[]⟩:BA),.slice A l.length cp,.int .i64 p]).2;clear hn hC hv hl;simp only [Nd.kind_mk,Nd.text_mk,Nd.kids_mk,Nd.pos_mk];(go_enter Tryz.func56,Tryz.ntmps56);(go_wp2_with fail);generalize w.alloc (.cells #[.int .i64 6,.string (⟨#[]⟩:BA),.slice A l.length cp,.int .i64 p] 24)=w0 at *;go_loopg [3,4] l.length (fun k u3 u4 wr=>∃ i:Nat,i≤l.length∧l.length-i≤k∧u4=.int .i64 (i:Int)∧u3=.string (tx (bH bo ((l.take i).map (dz (an d)))))∧Below w0.heap.size w0 wr)
 case atStart=>exact ⟨0,Nat.zero_le _,by omega,rfl,rfl,Below.refl _ _⟩
 case round=>
  obtain ⟨i,hi,hk,rfl,rfl,I⟩:=hrel;have gh:=fv bo (dz (an d)) l i hi;obtain ⟨x0,x1,x2,x3,-,-,-,-⟩:=ac (gb.bl I);by_cases M:i<l.length
  ·(have u:(i:Int)<(l.length:Int):=by omega);(have h0:(0:Int)≤(i:Int):=by omega);obtain ⟨-,-,n2,-⟩:=Aa (gb.bl I);obtain ⟨bp,op,A2,c2,yk,q⟩:=cH (ai.below HV.out (am hB I)) i M;simp only [Nd.kids_mk] at q;subst yk;have D:=hid (og bo (dz (an d)) l i M);have J:=fv bo (dz (an d)) l (i+1) M;rw [D.out,ByteArray.size_append,ByteArray.size_append] at J;have gg:=hid (FB (HL.out _ (List.getElem_mem M)));generalize l[i]=q1 at *;obtain ⟨t,x,pp,rfl,hx⟩:=gg.out;have HX:=hid hx;have ge:=hid (Fz (an d) t x pp);rw [ge.out] at D J;rw [ByteArray.size_append,ByteArray.size_append] at J;obtain ⟨bx,ox,A3,c3,rfl,K⟩:=cH q.2.2.2.2 0 (by simp);simp only [Nd.kids_mk,List.getElem_cons_zero,Nat.zero_mul,Nat.add_zero] at K;have gd:=hid (fun m:Wd (Below wr.heap.size wr)=>uA d _ x m.wd (K.below m.ok).2.2.2.2 HX.out (by omega));obtain ⟨k0,k1,k2,k3⟩:=p8 q;obtain ⟨b0,b1,b2,b3⟩:=p8 K;simp only [Nd.kind_mk,Nd.text_mk,Nd.kids_mk,Nd.pos_mk] at k0 k1 k2 k3;generalize tx (bH bo ((l.take i).map (dz (an d))))=S at *;generalize tx (fD (an d) x)=X at *;clear gg hx ge q K;rcases Nat.eq_zero_or_pos i with O | O;(have gi:¬ (0:Int)<(i:Int):=by omega);rw [mX bo O] at D J;simp only [fu] at D
   rotate_left
   (have gi:(0:Int)<(i:Int):=by omega);rw [mY bo O,oe] at D J
   rotate_left
   all_goals
    clear O;(go_wp2_with fail);refine dl wr ?_;(repeat (go_big_quiet_step ((go_at_call 37;rename_i m;exact oT gd.out m))));refine wpQuiet_nil ?_;intro m;have gj:=m.ok;clear k0 k1 k2 k3 b0 b1 b2 b3 n2 x0 x1 x2 x3 gd;(go_wp2_with fail);go_roundg (l.length-(i+1))
    case measure=>omega
    case rel=>exact ⟨i+1,by omega,Nat.le_refl _,by go_num,by first | exact congrArg Value.string D.out.symm | (rw [D.out];simp only [ah]),am I gj⟩
  ·(have u:¬ (i:Int)<(l.length:Int):=by omega);have D:=hid (show tx (bH bo ((l.take i).map (dz (an d))))=tx (bH bo (l.map (dz (an d)))) by rw [List.take_of_length_le (by omega)]);rw [←D.out] at j hS gh ga U;generalize tx (bH bo ((l.take i).map (dz (an d))))=S at *;by_cases N:l=[]
   ·subst N;rw [if_pos rfl] at j;have gl:S=(⟨#[]⟩:BA):=D.out;subst gl;(go_wp2_with fail);go_ret;exact ⟨by rw [j.out];rfl,am hB I⟩
   ·have q:=U.out N;(have gm:S.toList.isEmpty=false:=by rw [af,decide_eq_false_iff_not];rintro rfl;exact absurd q (by decide));rw [if_neg N] at j;rw [j.out,ByteArray.size_append,ByteArray.size_append] at hM;clear N;(go_wp2_with fail);go_ret;exact ⟨by rw [j.out];simp only [ah];rfl,am hB I⟩
theorem FC {F:bj} {n:Nd} (h:bQ 2 [aR F,dn F,F.block] (aq aw n)=true):∃ t x y b p,n=.mk 2 t [x,y,b] p∧aR F x=true∧dn F y=true∧F.block b=true:=by obtain ⟨t,l,p,rfl,K,J⟩:=aM (by decide) h;obtain ⟨x,y,b,rfl,I,D,hb⟩:=AU J;exact ⟨t,x,y,b,p,rfl,I,D,hb⟩
theorem FD {F:bj} {n:Nd} (h:bQ 3 [aR F,bI (bI F.typ (aZ F)) (aV F)] (aq aw n)=true):∃ t x y p,n=.mk 3 t [x,y] p∧aR F x=true∧(aZ F y=true∨(F.typ y||aV F y)=true):=by obtain ⟨t,l,p,rfl,K,J⟩:=aM (by decide) h;obtain ⟨x,y,rfl,I,D⟩:=il J;unfold bI at D;simp only [Bool.or_eq_true] at D ⊢;exact ⟨t,x,y,p,rfl,I,by rcases D with (h | h) | h <;> simp [h]⟩
theorem FE {F:bj} {n:Nd} (h:bQ 4 [aR F,F.typ] (aq aw n)=true):∃ t x y p,n=.mk 4 t [x,y] p∧aR F x=true∧F.typ y=true:=by obtain ⟨t,l,p,rfl,K,J⟩:=aM (by decide) h;obtain ⟨x,y,rfl,I,D⟩:=il J;exact ⟨t,x,y,p,rfl,I,D⟩
theorem FF (d:Nat) (t:ByteArray) (x y b:Nd) (p:Int):tx (iG (an d) (.mk 2 t [x,y,b] p))=(⟨#[102,117,110,99,32]⟩:BA)++t++tx (fL (an d) x)++tx (fK (az d) y)++(⟨#[32]⟩:BA)++tx ((an d).block b 0):=by show tx (fB (⟨#[102,117,110,99]⟩:BA)::aY::ik t::(fL (an d) x++(fK (an d).typ y++(aY::(an d).block b 0))))=_;rw [aj,aj aY (_::_),aj (ik t),lH,aQ,aQ,aj aY ((an d).block b 0),om];simp only [ah];rfl
theorem FG (d:Nat) (t:ByteArray) (x y:Nd) (p:Int):tx (iG (an d) (.mk 4 t [x,y] p))=(⟨#[116,121,112,101,32]⟩:BA)++t++tx (fL (an d) x)++(⟨#[32,61,32]⟩:BA)++tx (az d y):=by show tx (fB (⟨#[116,121,112,101]⟩:BA)::aY::ik t::(fL (an d) x++(aY::cF 61::aY::(an d).typ y)))=_;rw [aj,aj aY (ik t::_),aj (ik t),lH,aQ,aj aY (cF 61::_),aj (cF 61),aj aY ((an d).typ y),om];simp only [ah];rfl
theorem Ij (F:oX) (y:Nd):tx (nX F y)=(⟨#[115,116,114,117,99,116,32,123,10]⟩:BA)++(tx (y.kids.flatMap (cE F))++(⟨#[125]⟩:BA)):=by unfold nX;rw [aj,aj aY,aj (cF 123),aj (.gap 10),aQ,←ah,←ah,←ah];rfl
theorem FH (d:Nat) (t:ByteArray) (x y:Nd) (p:Int):tx (iG (an d) (.mk 3 t [x,y] p))=(⟨#[116,121,112,101,32]⟩:BA)++t++tx (fL (an d) x)++(⟨#[32]⟩:BA)++if y.kind=13 then (⟨#[115,116,114,117,99,116,32,123,10]⟩:BA)++(tx (y.kids.flatMap (cE (an d)))++(⟨#[125]⟩:BA)) else tx (fD (an d) y):=by
 show tx (fB (⟨#[116,121,112,101]⟩:BA)::aY::ik t::(fL (an d) x++(aY::(if y.kind=13 then nX (an d) y else fD (an d) y))))=_;rw [aj,aj aY (_::_),aj (ik t),lH,aQ,aj aY (if y.kind=13 then nX (an d) y else fD (an d) y)];split
 ·rw [Ij];simp only [←ah];rfl
 ·simp only [←ah];rfl
theorem DK {F:bj} {n:Nd} (h:eR F n=true):∃ t x p,n=.mk 9 t [x] p∧F.typ x=true:=by obtain ⟨t,l,a,rfl,hs,I⟩:=aM (by decide) h;obtain ⟨x,rfl,D⟩:=ec I;exact ⟨t,x,a,rfl,D⟩
theorem DL (d:Nat) (t:ByteArray) (x:Nd) (p:Int):tx (cE (an d) (.mk 9 t [x] p))=(⟨#[9]⟩:BA)++t++(⟨#[32]⟩:BA)++tx (az d x)++(⟨#[10]⟩:BA):=by show tx (.gap 9::ik t::aY::((an d).typ x++[.nl]))=_;rw [aj,aj (ik t),aj aY,aQ,lH,om];simp only [ah];rfl
theorem DM (F:oX) (x:Nd):1≤(tx (cE F x)).size:=by unfold cE;rw [aj,ByteArray.size_append];exact Nat.le_add_right _ _
def uE (d:Nat) (P:Nd→Bool):Prop:=Fb 29 P (iG (an d))
theorem DN (d:Nat) (hd:d≤1000) (D:ii d):uE d (fun n=>bQ 2 [aR (aa d),dn (aa d),(aa d).block] (aq aw n)):=by
 intro v n w hv hn hM;obtain ⟨t,x,y,b,p,rfl,h,U,hb⟩:=FC hn;have q:=hid (FF d t x y b p);rw [q.out] at hM;simp only [ByteArray.size_append] at hM;obtain ⟨A,cp,rfl,u⟩:=hv.toC;simp only [Nd.kind_mk,Nd.text_mk,Nd.kids_mk,Nd.pos_mk] at *;obtain ⟨hB,j⟩:=ae w #[.int .i64 2,.string t,.slice A 3 cp,.int .i64 p];obtain ⟨bp,op,A1,c1,A2,c2,A3,c3,rfl,K,J,I⟩:=IA (ai.below hv hB);clear hv u hn;(go_enter Tryz.func29,Tryz.ntmps29);(go_upto_region 3 with fail);generalize w.alloc (.cells #[.int .i64 2,.string t,.slice (some ⟨bp,op,none⟩) 3 cp,.int .i64 p] 24)=W at *;have O:=hid (oT fun m:Wd (Below W.heap.size W)=>rb d _ x m.wd (K.below m.ok).2.2.2.2 h (by omega));have N:=hid (oT fun m:Wd (Below W.heap.size W)=>pW d (eY d) _ y m.wd (J.below m.ok).2.2.2.2 U (by omega));have M:=hid (oT fun m:Wd (Below W.heap.size W)=>D _ b m.wd 0 (I.below m.ok).2.2.2.2 hb (by omega) (by omega));obtain ⟨k0,k1,k2,k3⟩:=p8 K;obtain ⟨b0,b1,b2,b3⟩:=p8 J;obtain ⟨r0,r1,r2,r3⟩:=p8 I;obtain ⟨n0,n1,n2,n3⟩:=Aa j;generalize tx (fL (an d) x)=X at *;generalize tx (fK (az d) y)=Y at *;generalize tx ((an d).block b 0)=Z at *;clear K J I D h U hb j;refine dl W ?_;repeat (go_big_quiet_step (first
  | (go_at_call 56;rename_i m;exact O.out m)
  | (go_at_call 38;rename_i m;exact N.out m)
  | (go_at_call 39;rename_i m;exact M.out m)))
 refine wpQuiet_nil ?_;intro m;(go_wp2_with fail);go_ret;exact ⟨by rw [q.out];rfl,am hB m.ok⟩
theorem DO (d:Nat):uE d (fun n=>bQ 4 [aR (aa d),(aa d).typ] (aq aw n)):=by
 intro v n w hv hn hM;obtain ⟨t,x,y,p,rfl,N,M⟩:=FE hn;have U:=hid (FG d t x y p);rw [U.out] at hM;simp only [ByteArray.size_append] at hM;obtain ⟨A,cp,rfl,h⟩:=hv.toC;simp only [Nd.kind_mk,Nd.text_mk,Nd.kids_mk,Nd.pos_mk] at *;obtain ⟨hB,O⟩:=ae w #[.int .i64 4,.string t,.slice A 2 cp,.int .i64 p];obtain ⟨bp,op,A1,c1,A2,c2,rfl,I,D⟩:=ya (ai.below hv hB);clear hv h hn;(go_enter Tryz.func29,Tryz.ntmps29);(go_upto_region 16 with fail);generalize w.alloc (.cells #[.int .i64 4,.string t,.slice (some ⟨bp,op,none⟩) 2 cp,.int .i64 p] 24)=W at *;have K:=hid (oT fun m:Wd (Below W.heap.size W)=>rb d _ x m.wd (I.below m.ok).2.2.2.2 N (by omega));have J:=hid (oT fun m:Wd (Below W.heap.size W)=>eY d _ y m.wd (D.below m.ok).2.2.2.2 M (by omega));obtain ⟨k0,k1,k2,k3⟩:=p8 I;obtain ⟨b0,b1,b2,b3⟩:=p8 D;obtain ⟨n0,u,q,j⟩:=Aa O;generalize tx (fL (an d) x)=X at *;generalize tx (az d y)=Y at *;clear I D N M O;refine dl W ?_;repeat (go_big_quiet_step (first
  | (go_at_call 56;rename_i m;exact K.out m)
  | (go_at_call 37;rename_i m;exact J.out m)))
 refine wpQuiet_nil ?_;intro m;(go_wp2_with fail);go_ret;exact ⟨by rw [U.out];rfl,am hB m.ok⟩
theorem DP (d:Nat) (hd:d≤1000) (O:dP d):uE d (fun n=>decide (n.kind≠2)&&(decide (n.kind≠3)&&(decide (n.kind≠4)&&fd (aa d) n))):=by intro v n w hv D hM;simp only [Bool.and_eq_true,decide_eq_true_eq] at D;obtain ⟨M,K,J,D⟩:=D;(have N:Hid (tx (iG (an d) n)=tx (nW (an d) n 0)):=by refine hid ?_;unfold iG;rw [if_neg M,if_neg K,if_neg J]);rw [N.out] at hM;obtain ⟨t,a,b,p,rfl,-⟩:=Dz D;obtain ⟨A,cp,rfl,h⟩:=hv.toC;obtain ⟨hB,U⟩:=ae w #[.int .i64 5,.string t,.slice A 2 cp,.int .i64 p];have j:=hid (uD d O _ _ _ 0 (ai.below hv hB) D (by omega) hM);generalize tx (nW (an d) (.mk 5 t [a,b] p) 0)=X at *;simp only [Nd.kind_mk,Nd.text_mk,Nd.kids_mk,Nd.pos_mk] at *;clear hv h D O U M K J;(go_enter Tryz.func29,Tryz.ntmps29);(go_wp2_with fail);refine j.out.mono ?_;rintro e w3 ⟨rfl,I⟩;(go_wp2_with fail);go_ret;exact ⟨by rw [N.out];rfl,am hB I⟩
theorem DQ (d:Nat):uE d (fun n=>bQ 3 [aR (aa d),bI (bI (aa d).typ (aZ (aa d))) (aV (aa d))] (aq aw n)):=by
 intro v n w hv hn hM;obtain ⟨t,x,y,p,rfl,hx,hy⟩:=FD hn;have HR:=hid (FH d t x y p);rw [HR.out] at hM;simp only [ByteArray.size_append] at hM;obtain ⟨A,cp,rfl,hC⟩:=hv.toC;simp only [Nd.kind_mk,Nd.text_mk,Nd.kids_mk,Nd.pos_mk] at *;obtain ⟨hB,hN⟩:=ae w #[.int .i64 3,.string t,.slice A 2 cp,.int .i64 p];obtain ⟨bp,op,A1,c1,A2,c2,rfl,hp,hq⟩:=ya (ai.below hv hB);clear hv hC hn;(go_enter Tryz.func29,Tryz.ntmps29);(go_upto_region 5 with fail);generalize w.alloc (.cells #[.int .i64 3,.string t,.slice (some ⟨bp,op,none⟩) 2 cp,.int .i64 p] 24)=W at *;have J:=hid (oT fun m:Wd (Below W.heap.size W)=>rb d _ x m.wd (hp.below m.ok).2.2.2.2 hx (by omega));obtain ⟨k0,k1,k2,k3⟩:=p8 hp;obtain ⟨b0,b1,b2,b3⟩:=p8 hq;obtain ⟨n0,n1,n2,n3⟩:=Aa hN;generalize tx (fL (an d) x)=X at *;clear hp hx hN;refine dl W ?_;(repeat (go_big_quiet_step ((go_at_call 56;rename_i m;exact J.out m))));refine wpQuiet_nil ?_;intro m;have b0:=b0 m;have b1:=b1 m;have b2:=b2 m;have b3:=b3 m;have n2:=n2 m;have hq:=hq.below m.ok;have hW:=am hB m.ok;clear k0 k1 k2 k3 n0 n1 n3 J;generalize m.wd=W2 at *;obtain ⟨ga,q⟩:=ae W2 #[.int .i64 y.kind,.string y.text,.slice A2 y.kids.length c2,.int .i64 y.pos];have D:=ai.below hq.2.2.2.2 ga;have u:=am hW ga;by_cases N:y.kind=13
 ·rw [if_pos N] at HR hM;simp only [ByteArray.size_append] at hM;have j:aZ (aa d) y=true:=by
   refine hy.resolve_right fun h=>?_;rw [Bool.or_eq_true] at h;rcases h with h | h
   ·have:=typ_kind h;omega
   ·obtain ⟨l,p,rfl,-⟩:=pY h;exact absurd N (show ¬ (14:Int)=13 by decide)
  unfold aZ at j;simp only [Bool.and_eq_true] at j;have HL:=hid (List.all_eq_true.1 j.2.2);have yk:=o9 (cE (an d)) (DM _) y.kids;rw [N] at b0 ga q D u;have gj:=hid D;clear hq j hy D N;(go_wp2_with fail);generalize W2.alloc (.cells #[.int .i64 13,.string y.text,.slice A2 y.kids.length c2,.int .i64 y.pos] 24)=w0 at *;go_loopg [3,5] y.kids.length (fun k u3 u5 wr=>∃ i:Nat,i≤y.kids.length∧y.kids.length-i≤k∧u5=.int .i64 (i:Int)∧u3=.string ((⟨#[116,121,112,101,32]⟩:BA)++t++X++(⟨#[32]⟩:BA)++(⟨#[115,116,114,117,99,116,32,123,10]⟩:BA)++tx ((y.kids.take i).flatMap (cE (an d))))∧Below w0.heap.size w0 wr)
  case atStart=>exact ⟨0,Nat.zero_le _,by omega,rfl,by rw [List.take_zero,List.flatMap_nil,wZ,lB],Below.refl _ _⟩
  case round=>
   obtain ⟨i,hi,N,rfl,rfl,I⟩:=hrel;have gl:=mr (cE (an d)) y.kids i;obtain ⟨x0,x1,x2,x3,-,-,-,-⟩:=ac (q.bl I);by_cases U:i<y.kids.length
   ·(have gb:(i:Int)<(y.kids.length:Int):=by omega);(have h0:(0:Int)≤(i:Int):=by omega);obtain ⟨-,-,n2,-⟩:=Aa (q.bl I);obtain ⟨b4,o4,A4,c4,gi,h4⟩:=cH (ai.below gj.out I) i U;subst gi;have K:=hid (sW (cE (an d)) y.kids i U);have O:=mr (cE (an d)) y.kids (i+1);rw [K.out,ByteArray.size_append] at O;have ge:=hid (DK (HL.out _ (List.getElem_mem U)));generalize y.kids[i]=q1 at *;obtain ⟨s,x,pp,rfl,hx⟩:=ge.out;have HX:=hid hx;have gd:=hid (DL d s x pp);rw [gd.out] at K O;simp only [ByteArray.size_append] at O;obtain ⟨bx,ox,A5,c5,rfl,M⟩:=cH h4.2.2.2.2 0 (by simp);simp only [Nd.kids_mk,List.getElem_cons_zero,Nat.zero_mul,Nat.add_zero] at M;have J:=hid (fun m:Wd (Below wr.heap.size wr)=>eY d _ x m.wd (M.below m.ok).2.2.2.2 HX.out (by omega));obtain ⟨k0,k1,k2,k3⟩:=p8 h4;obtain ⟨b0,b1,b2,b3⟩:=p8 M;simp only [Nd.kind_mk,Nd.text_mk,Nd.kids_mk,Nd.pos_mk] at k0 k1 k2 k3;generalize tx ((y.kids.take i).flatMap (cE (an d)))=S at *;generalize tx (az d x)=Y at *;clear ge hx gd h4 M;(go_wp2_with fail);refine dl wr ?_;(repeat (go_big_quiet_step ((go_at_call 37;rename_i m;exact oT J.out m))));refine wpQuiet_nil ?_;intro m;have gh:=m.ok;clear k0 k1 k2 k3 b0 b1 b2 b3 n2 x0 x1 x2 x3 J;(go_wp2_with fail);go_roundg (y.kids.length-(i+1))
    case measure=>omega
    case rel=>exact ⟨i+1,by omega,Nat.le_refl _,by go_num,by rw [K.out];simp only [ah],am I gh⟩
   ·(have gb:¬ (i:Int)<(y.kids.length:Int):=by omega);have K:=hid (show tx ((y.kids.take i).flatMap (cE (an d)))=tx (y.kids.flatMap (cE (an d))) by rw [List.take_of_length_le (by omega)]);rw [←K.out] at HR hM;generalize tx ((y.kids.take i).flatMap (cE (an d)))=S at *;(go_wp2_with fail);go_ret;exact ⟨by rw [HR.out];simp only [ah];rfl,am u I⟩
 ·rw [if_neg N] at HR hM;(have j:((aa d).typ y||aV (aa d) y)=true:=by refine hy.resolve_left fun h=>N ?_;unfold aZ at h;rw [Bool.and_eq_true,decide_eq_true_eq] at h;exact h.1);(have ek:(y.kind != 13)=true:=by simpa using N);have HX:=hid (uA d _ y _ D j (by omega));generalize tx (fD (an d) y)=Y at *;clear hq j hy D N;(go_wp2_with fail);refine HX.out.mono ?_;rintro e w3 ⟨rfl,gg⟩;(go_wp2_with fail);go_ret;exact ⟨by rw [HR.out];rfl,am u gg⟩
theorem Bs (d:Nat) (hd:d≤1000) (J:dP d) (I:ii d):uE d (a8 (aa d)):=by
 intro v n w hv D hM;unfold a8 at D;split at D
 ·exact DN d hd I v n w hv D hM
 ·split at D
  ·exact DQ d v n w hv D hM
  ·split at D
   ·exact DO d v n w hv D hM
   ·exact DP d hd J v n w hv (by simp only [Bool.and_eq_true,decide_eq_true_eq];exact ⟨by assumption,by assumption,by assumption,D⟩) hM
def oo (F:oX) (x:Nd):List It:=.gap 10::(iG F x++[.nl])
theorem yg (F:oX) (x:Nd):tx (oo F x)=(⟨#[10]⟩:BA)++tx (iG F x)++(⟨#[10]⟩:BA):=by unfold oo;rw [aj,aQ,←ah];rfl
theorem Ik (F:oX) (n:Nd):tx (f9 F n)=(⟨#[112,97,99,107,97,103,101,32]⟩:BA)++n.text++(⟨#[10]⟩:BA)++tx (n.kids.flatMap (oo F)):=by show tx (fB (⟨#[112,97,99,107,97,103,101]⟩:BA)::aY::ik n.text::.nl::n.kids.flatMap (oo F))=_;rw [aj,aj aY,aj (ik n.text),aj .nl,lH];simp only [←ah];rfl
theorem Bt (d:Nat) (hd:d≤1000) (HE:dP d) (q:ii d):Fb 12 (eT (aa d)) (f9 (an d)):=by
 intro v n w hv hn hM;unfold eT at hn;rw [Bool.and_eq_true,Bool.and_eq_true] at hn;have HL:=hid (List.all_eq_true.1 hn.2.2);have j:=hid (Ik (an d) n);rw [j.out] at hM;simp only [ByteArray.size_append] at hM;have ga:=o9 (oo (an d)) (fun x=>by rw [yg,ByteArray.size_append];exact Nat.le_add_left _ _) n.kids;obtain ⟨A,cp,rfl,hC⟩:=hv.toC;have HV:=hid hv;obtain ⟨hB,O⟩:=ae w #[.int .i64 n.kind,.string n.text,.slice A n.kids.length cp,.int .i64 n.pos];clear hv hC hn;(go_enter Tryz.func12,Tryz.ntmps12);(go_wp2_with fail);generalize w.alloc (.cells #[.int .i64 n.kind,.string n.text,.slice A n.kids.length cp,.int .i64 n.pos] 24)=w0 at *;go_loopg [3,4] n.kids.length (fun k u3 u4 wr=>∃ i:Nat,i≤n.kids.length∧n.kids.length-i≤k∧u4=.int .i64 (i:Int)∧u3=.string ((⟨#[112,97,99,107,97,103,101,32]⟩:BA)++n.text++(⟨#[10]⟩:BA)++tx ((n.kids.take i).flatMap (oo (an d))))∧Below w0.heap.size w0 wr)
 case atStart=>exact ⟨0,Nat.zero_le _,by omega,rfl,by rw [List.take_zero,List.flatMap_nil,wZ,lB],Below.refl _ _⟩
 case round=>
  obtain ⟨i,hi,hk,rfl,rfl,I⟩:=hrel;have gb:=mr (oo (an d)) n.kids i;obtain ⟨x0,x1,x2,x3,-,-,-,-⟩:=ac (O.bl I);by_cases J:i<n.kids.length
  ·(have M:(i:Int)<(n.kids.length:Int):=by omega);(have h0:(0:Int)≤(i:Int):=by omega);obtain ⟨bp,op,A2,c2,U,u⟩:=cH (ai.below HV.out (am hB I)) i J;subst U;have D:=hid (sW (oo (an d)) n.kids i J);have K:=mr (oo (an d)) n.kids (i+1);rw [D.out,yg] at K;simp only [ByteArray.size_append] at K;rw [yg] at D;have HX:=hid (HL.out _ (List.getElem_mem J));generalize n.kids[i]=x at *;have h:=hid (Bs d hd HE q _ x wr u.2.2.2.2 HX.out (by omega));obtain ⟨k0,k1,k2,k3,-⟩:=u;generalize tx (iG (an d) x)=X at *;generalize tx ((n.kids.take i).flatMap (oo (an d)))=S at *;clear HX;(go_wp2_with fail);refine h.out.mono ?_;rintro e w3 ⟨rfl,N⟩;clear k0 k1 k2 k3 x0 x1 x2 x3;(go_wp2_with fail);go_roundg (n.kids.length-(i+1))
   case measure=>omega
   case rel=>exact ⟨i+1,by omega,Nat.le_refl _,by go_num,by rw [D.out];simp only [ah],am I N⟩
  ·(have M:¬ (i:Int)<(n.kids.length:Int):=by omega);have D:=hid (show tx ((n.kids.take i).flatMap (oo (an d)))=tx (n.kids.flatMap (oo (an d))) by rw [List.take_of_length_le (by omega)]);rw [←D.out] at j;generalize tx ((n.kids.take i).flatMap (oo (an d)))=S at *;(go_wp2_with fail);go_ret;exact ⟨by rw [j.out];rfl,am hB I⟩
theorem sZ:∀ d,dP d∧ii d∧p4 d
 | 0=>⟨fun _ _ _ _ _ _ h=>(by cases h),fun _ _ _ _ _ h=>(by cases h),fun _ _ _ _ _ h=>(by cases h)⟩
 | d+1=>by obtain ⟨I,J,D⟩:=sZ d;exact ⟨Bq d I J,ye d D,Br d I J D⟩
theorem Bu (d:Nat) (hd:d≤1000):Fb 12 (eT (aa d)) (f9 (an d)):=Bt d hd (sZ d).1 (sZ d).2.1
theorem dj (k:Int) (f g:Nd→Bool) (so:ByteArray→Bool) (l:List Nd) {t:ByteArray} {p:Int} : bQ k [f,g] (aq so (.mk k t l p))=(iK f g l&&so t):=by
 rw [show aq so (.mk k t l p)=if so t=true then .mk k (⟨#[]⟩:BA) l p else .mk 37 (⟨#[]⟩:BA) [] 0 from rfl];by_cases hs:so t=true
 ·rw [if_pos hs,mc];simp [hs]
 ·rw [if_neg hs,mc];rw [Bool.not_eq_true] at hs;simp [hs,iK]
theorem Ad (f:Nd→Bool) (l:List Nd):iK f f l=(decide (l.length=2)&&l.all f):=by rcases l with _ | ⟨x,_ | ⟨y,_ | ⟨z,l⟩⟩⟩ <;> simp [iK]
theorem D2 (d:Nat) (C:fM d) (nt:ByteArray) (nl:List Nd) (np:Int) (A:Option Addr) (cp:Nat) (w:World) (hv:ax w (.agg #[.int .i64 20,.string nt,.slice A nl.length cp,.int .i64 np]) (.mk 20 nt nl np)) (hd:cq (d+1) (.mk 20 nt nl np)) :
  Calls Tryz.prog 26 #[.agg #[.int .i64 20,.string nt,.slice A nl.length cp,.int .i64 np]] w fun e w'=>e=.returned (.bool (ay (aa d) (.mk 20 nt nl np)))∧Below w.heap.size w w':=by
 have HV:=hid hv;have HD:=hid hd;have K:=hd.1.1;have HT:=hid C.typ;have HE:=hid C.expr;have I:=hid (lC d C.expr);have hB:=(ae w #[.int .i64 20,.string nt,.slice A nl.length cp,.int .i64 np]).1;have gb:=(ae w #[.int .i64 20,.string nt,.slice A nl.length cp,.int .i64 np]).2;clear hv hd C;generalize aa d=F at *;simp only [Nd.kids_mk] at K;have j:=hid (show ay F (.mk 20 nt nl np)=(iK F.expr F.expr nl&&dp nt) by (have h:ay F (.mk 20 nt nl np)=bQ 20 [F.expr,F.expr] (aq dp (.mk 20 nt nl np)):=by simp [ay]);rw [h,dj]);have N:=Ad F.expr nl;have I:=hid (I.out A cp nl _ (ai.kidsV (ai.below HV.out hB)) (fun n D=>HD.out.kid D) K);cases J:dp nt with
 | false=>have U:=hid (show ay F (.mk 20 nt nl np)=false by rw [j.out,J,Bool.and_false]);(have D:∀ x∈cl,¬ nt=x:=by intro x M e;rw [mV,List.any_eq_false] at J;exact J x M (by simpa using e));have e0:=aS (D (⟨#[43]⟩:BA) (by simp [cl]));have e1:=aS (D (⟨#[45]⟩:BA) (by simp [cl]));have e2:=aS (D (⟨#[42]⟩:BA) (by simp [cl]));have e3:=aS (D (⟨#[47]⟩:BA) (by simp [cl]));have e4:=aS (D (⟨#[37]⟩:BA) (by simp [cl]));have e5:=aS (D (⟨#[61,61]⟩:BA) (by simp [cl]));have e6:=aS (D (⟨#[33,61]⟩:BA) (by simp [cl]));have e7:=aS (D (⟨#[60]⟩:BA) (by simp [cl]));have e8:=aS (D (⟨#[60,61]⟩:BA) (by simp [cl]));have e9:=aS (D (⟨#[62]⟩:BA) (by simp [cl]));have gg:=aS (D (⟨#[62,61]⟩:BA) (by simp [cl]));have ge:=aS (D (⟨#[38,38]⟩:BA) (by simp [cl]));have gd:=aS (D (⟨#[124,124]⟩:BA) (by simp [cl]));clear D J j N I;(go_enter Tryz.func26,Tryz.ntmps26);(go_wp2_with fail);go_ret;exact ⟨by rw [U.out];rfl,hB⟩
 | true=>
  have U:=hid (show ay F (.mk 20 nt nl np)=(decide (nl.length=2)&&nl.all F.expr) by rw [j.out,J,Bool.and_true,N]);(have D:∃ x∈cl,nt=x:=by rw [mV,List.any_eq_true] at J;obtain ⟨x,M,e⟩:=J;exact ⟨x,M,by simpa using e⟩);clear J j N;generalize nl.all F.expr=res at *;(have hc:∃ q:Bool,((nl.length:Int)==2)=q∧decide (nl.length=2)=q:=by refine ⟨_,rfl,?_⟩;rw [Bool.eq_iff_iff];simp;omega);obtain ⟨q,ga,O⟩:=hc;rw [O] at U;generalize nl.length=m at *;clear O;obtain ⟨x,M,rfl⟩:=D;simp only [cl,List.mem_cons,List.not_mem_nil,or_false] at M;cases q
  ·rcases M with rfl | rfl | rfl | rfl | rfl | rfl | rfl | rfl | rfl | rfl | rfl | rfl | rfl;all_goals (go_enter Tryz.func26,Tryz.ntmps26);(go_wp2_with fail);go_ret;exact ⟨by rw [U.out];rfl,hB⟩
  ·rcases M with rfl | rfl | rfl | rfl | rfl | rfl | rfl | rfl | rfl | rfl | rfl | rfl | rfl;all_goals (go_enter Tryz.func26,Tryz.ntmps26);(go_wp2_with fail);refine (I.out).mono ?_;rintro e w1 ⟨rfl,u⟩;(go_wp2_with fail);go_ret;exact ⟨by rw [U.out,Bool.true_and];rfl,am hB u⟩
theorem yk (F:bj) (k:Int) (t:ByteArray) (l:List Nd) (p:Int) (h:∀ j:Int,16≤j→j≤25→k≠j):ay F (.mk k t l p)=false:=by have u:=h 16 (by decide) (by decide);have q:=h 17 (by decide) (by decide);have U:=h 18 (by decide) (by decide);have O:=h 19 (by decide) (by decide);have N:=h 20 (by decide) (by decide);have M:=h 21 (by decide) (by decide);have K:=h 22 (by decide) (by decide);have J:=h 23 (by decide) (by decide);have I:=h 24 (by decide) (by decide);have D:=h 25 (by decide) (by decide);(have e:ay F (.mk k t l p)=bQ 25 [dn F,F.block] (.mk k t l p):=by simp [ay,u,q,U,O,N,M,K,J,I]);rw [e,mc];simp [D]
theorem Bx (d:Nat) (C:fM d) (v:Value) (n:Nd) (w:World) (D:ax w v n) (hd:cq (d+1) n) :
  Calls Tryz.prog 26 #[v] w fun e w'=>e=.returned (.bool (ay (aa d) n))∧Below w.heap.size w w':=by
 obtain ⟨A,cp,rfl,hC⟩:=D.toC;obtain ⟨nk,nt,nl,np⟩:=n;simp only [Nd.kind_mk,Nd.text_mk,Nd.kids_mk,Nd.pos_mk] at *;by_cases u:nk=16
 ·subst u;exact DT d C nt nl np A cp w D hd
 by_cases q:nk=17
 ·subst q;exact DU d C nt nl np A cp w D hd
 by_cases h:nk=18
 ·subst h;exact DV d C nt nl np A cp w D hd
 by_cases U:nk=19
 ·subst U;exact DW d C nt nl np A cp w D hd
 by_cases O:nk=20
 ·subst O;exact D2 d C nt nl np A cp w D hd
 by_cases N:nk=21
 ·subst N;exact DY d C nt nl np A cp w D hd
 by_cases M:nk=22
 ·subst M;exact D1 d C nt nl np A cp w D hd
 by_cases K:nk=23
 ·subst K;exact DX d C nt nl np A cp w D hd
 by_cases J:nk=24
 ·subst J;exact D0 d C nt nl np A cp w D hd
 by_cases I:nk=25
 ·subst I;exact DZ d C nt nl np A cp w D hd
 have HX:=hid (yk (aa d) nk nt nl np (fun j h1 h2 e=>by omega));have hB:=(ae w #[.int .i64 nk,.string nt,.slice A nl.length cp,.int .i64 np]).1;(have gl:(nk==16)=false:=by rw [beq_eq_false_iff_ne];exact u);(have gk:(nk==17)=false:=by rw [beq_eq_false_iff_ne];exact q);(have gj:(nk==18)=false:=by rw [beq_eq_false_iff_ne];exact h);(have gi:(nk==19)=false:=by rw [beq_eq_false_iff_ne];exact U);(have gh:(nk==20)=false:=by rw [beq_eq_false_iff_ne];exact O);(have gg:(nk==21)=false:=by rw [beq_eq_false_iff_ne];exact N);(have ge:(nk==22)=false:=by rw [beq_eq_false_iff_ne];exact M);(have gd:(nk==23)=false:=by rw [beq_eq_false_iff_ne];exact K);(have gb:(nk==24)=false:=by rw [beq_eq_false_iff_ne];exact J);(have ga:(nk==25)=false:=by rw [beq_eq_false_iff_ne];exact I);clear D hd hC C u q h U O N M K J I;generalize nl.length=m at *;(go_enter Tryz.func26,Tryz.ntmps26);(go_wp2_with fail);go_ret;exact ⟨by rw [HX.out];rfl,hB⟩
end
end Go.Proofs.YtiebcdeafofgdaaGreatDoor
