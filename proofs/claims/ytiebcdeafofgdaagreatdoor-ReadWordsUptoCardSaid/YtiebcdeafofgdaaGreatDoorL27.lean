/-
  Parts of the proof: Ustmt2 Ustmt3 Ustmt Udecl. By an AI agent.
-/
import Derived.Test.YtiebcdeafofgdaaGreatDoorL26
import Derived.Test.YtiebcdeafofgdaaGreatDoorL19
set_option maxRecDepth 100000
set_option maxHeartbeats 8000000
namespace Go.Proofs.YtiebcdeafofgdaaGreatDoor
section
open Go.RowKit Go.Lib Go.Proofs
attribute [local go_sem ↓] Go.wp_at_zero Go.wp_at_succ
def ij (f g h:Nd→Bool):List Nd→Bool
 | [a,b,c]=>f a&&(g b&&h c)
 | _=>false
theorem se (f g h:Nd→Bool) {l:List Nd} (D:l.length≠3):ij f g h l=false:=by
 rcases l with _ | ⟨x,_ | ⟨y,_ | ⟨z,_ | ⟨u,l⟩⟩⟩⟩
 ·rfl
 ·rfl
 ·rfl
 ·exact absurd rfl D
 ·rfl
theorem Ea {l:List Nd} (h:l.length=3):∃ x y z,l=[x,y,z]:=by
 rcases l with _ | ⟨x,_ | ⟨y,_ | ⟨z,_ | ⟨u,l⟩⟩⟩⟩
 ·simp at h
 ·simp at h
 ·simp at h
 ·exact ⟨x,y,z,rfl⟩
 ·simp at h
theorem rf (k:Int) (f g h:Nd→Bool) (n:Nd):bQ k [f,g,h] n=(decide (n.kind=k)&&(decide (n.text=(⟨#[]⟩:BA))&&ij f g h n.kids)):=by
 unfold bQ;congr 2;rcases n.kids with _ | ⟨x,_ | ⟨y,_ | ⟨z,_ | ⟨u,l⟩⟩⟩⟩
 ·rfl
 ·simp [aH,ij]
 ·simp [aH,ij]
 ·simp [aH,ij]
 ·simp [aH,ij]
theorem uH (d:Nat) (k:Nd):((aa d).block k||(aa d).ifS k)=(decide (k.kind∈([36,30]:List Int))&&(aa d).stmt k):=by
 cases d with
 | zero=>simp [aa]
 | succ d=>
  show (bm (aa d) k||uL (aa d) k)=(decide (k.kind∈([36,30]:List Int))&&av (aa d) k);obtain ⟨j,t,l,p⟩:=k;by_cases I:j=36
  ·subst I;simp [av,uL,rf]
  by_cases D:j=30
  ·subst D;simp [av,bm]
  ·simp [bm,uL,rf,I,D]
theorem Eb (d:Nat) (C:fM d) (nt:ByteArray) (nl:List Nd) (np:Int) (A:Option Addr) (cp:Nat) (w:World) (hv:ax w (.agg #[.int .i64 32,.string nt,.slice A nl.length cp,.int .i64 np]) (.mk 32 nt nl np)) (hd:cq (d+1) (.mk 32 nt nl np)) :
  Calls Tryz.prog 27 #[.agg #[.int .i64 32,.string nt,.slice A nl.length cp,.int .i64 np]] w fun e w'=>e=.returned (.bool (av (aa d) (.mk 32 nt nl np)))∧Below w.heap.size w w':=by
 have HV:=hid hv;have HD:=hid hd;have gb:=hd.1.1;have HT:=hid C.typ;have HE:=hid C.expr;have K:=hd.1.2;have gq:=hid C.block;have hB:=(ae w #[.int .i64 32,.string nt,.slice A nl.length cp,.int .i64 np]).1;have gd:=(ae w #[.int .i64 32,.string nt,.slice A nl.length cp,.int .i64 np]).2;clear hv hd C;generalize aa d=F at *;simp only [Nd.kids_mk] at gb;simp only [Nd.text_mk] at K;have HR:=hid (show av F (.mk 32 nt nl np)=(iK F.expr F.block nl&&be nt) by (have h:av F (.mk 32 nt nl np)=bQ 32 [F.expr,F.block] (aq be (.mk 32 nt nl np)):=by simp [av]);rw [h,dj]);by_cases h2:nl.length=2
 rotate_left
 ·(have gw:((nl.length:Int)==2)=false:=by rw [beq_eq_false_iff_ne];omega);have q:=hid (show av F (.mk 32 nt nl np)=false by rw [HR.out,mu _ _ h2,Bool.false_and]);clear h2;generalize nl.length=m at *;(go_enter Tryz.func27,Tryz.ntmps27);(go_wp2_with fail);go_ret;exact ⟨by rw [q.out];rfl,hB⟩
 obtain ⟨x,y,rfl⟩:=yj h2;clear h2;have u:ax w (.agg #[.int .i64 32,.string nt,.slice A 2 cp,.int .i64 np]) (.mk 32 nt [x,y] np):=HV.out;have hB:Below w.heap.size w (w.alloc (.cells #[.int .i64 32,.string nt,.slice A 2 cp,.int .i64 np] 24)):=hB;have gd:ar (w.alloc (.cells #[.int .i64 32,.string nt,.slice A 2 cp,.int .i64 np] 24)) w.heap.size 24 #[.int .i64 32,.string nt,.slice A 2 cp,.int .i64 np]:=gd;obtain ⟨bx,ox,A0,c0,rfl,U⟩:=aU u 0 (by simp);obtain ⟨gx,gr,A1,c1,e,O⟩:=aU u 1 (by simp);injection e with e;injection e with e1 e2;subst e1 e2;simp only [Nd.kids_mk,List.getElem_cons_zero,List.getElem_cons_succ,Nat.zero_mul,Nat.add_zero,Nat.one_mul] at U O;have N:=hid U;have gl:=HD.out.kid (k:=x) (by simp);have ge:=hid O;have gk:=HD.out.kid (k:=y) (by simp);clear u HV U O;have M:=hid (fun w' (h:C4 w' bx ox x A0 c0)=>HE.out _ x w' h.2.2.2.2 gl);have gp:=hid (fun w' (h:C4 w' bx (ox+4) y A1 c1)=>gq.out _ y w' h.2.2.2.2 gk);have ga:=hid (show av F (.mk 32 nt [x,y] np)=(be nt&&(F.expr x&&F.block y)) by rw [HR.out,Bool.and_comm];rfl);cases g1:be nt with
 | false=>have q:=hid (show av F (.mk 32 nt [x,y] np)=false by rw [ga.out,g1,Bool.false_and]);(go_enter Tryz.func27,Tryz.ntmps27);(go_wp2_with fail);refine (me _ K _).mono ?_;rw [g1];rintro e w1 ⟨rfl,I⟩;(go_wp2_with fail);go_ret;exact ⟨by rw [q.out];rfl,am hB I⟩
 | true=>
  cases g2:F.expr x with
  | false=>have q:=hid (show av F (.mk 32 nt [x,y] np)=false by rw [ga.out,g1,g2];rfl);rw [g2] at M;(go_enter Tryz.func27,Tryz.ntmps27);(go_wp2_with fail);refine (me _ K _).mono ?_;rw [g1];rintro e w1 ⟨rfl,I⟩;have D:=am hB I;obtain ⟨gj,gi,gh,gg,-⟩:=N.out.below D;(go_wp2_with fail);refine (M.out _ (N.out.below D)).mono ?_;rintro e w2 ⟨rfl,j⟩;have J:=am D j;(go_wp2_with fail);go_ret;exact ⟨by rw [q.out];rfl,J⟩
  | true=>have q:=hid (show av F (.mk 32 nt [x,y] np)=F.block y by rw [ga.out,g1,g2];rfl);rw [g2] at M;(go_enter Tryz.func27,Tryz.ntmps27);(go_wp2_with fail);refine (me _ K _).mono ?_;rw [g1];rintro e w1 ⟨rfl,I⟩;have D:=am hB I;obtain ⟨gj,gi,gh,gg,-⟩:=N.out.below D;(go_wp2_with fail);refine (M.out _ (N.out.below D)).mono ?_;rintro e w2 ⟨rfl,j⟩;have J:=am D j;obtain ⟨gv,gu,gt,gs,-⟩:=ge.out.below J;(go_wp2_with fail);refine (gp.out _ (ge.out.below J)).mono ?_;rintro e w3 ⟨rfl,gm⟩;have gn:=am J gm;(go_wp2_with fail);go_ret;exact ⟨by rw [q.out];rfl,gn⟩
theorem Ec (d:Nat) (C:fM d) (nt:ByteArray) (nl:List Nd) (np:Int) (A:Option Addr) (cp:Nat) (w:World) (hv:ax w (.agg #[.int .i64 30,.string nt,.slice A nl.length cp,.int .i64 np]) (.mk 30 nt nl np)) (hd:cq (d+1) (.mk 30 nt nl np)) :
  Calls Tryz.prog 27 #[.agg #[.int .i64 30,.string nt,.slice A nl.length cp,.int .i64 np]] w fun e w'=>e=.returned (.bool (av (aa d) (.mk 30 nt nl np)))∧Below w.heap.size w w':=by
 have HV:=hid hv;have HD:=hid hd;have gs:=hd.1.1;have HT:=hid C.typ;have HE:=hid C.expr;have g9:=hid C.block;have g8:=hid (sd d C.stmt);have ha:=hid (uH d);have hB:=(ae w #[.int .i64 30,.string nt,.slice A nl.length cp,.int .i64 np]).1;have gt:=(ae w #[.int .i64 30,.string nt,.slice A nl.length cp,.int .i64 np]).2;clear hv hd C;generalize aa d=F at *;simp only [Nd.kids_mk] at gs;have HR:=hid (show av F (.mk 30 nt nl np)=(decide (nt=(⟨#[]⟩:BA))&&ij F.expr F.block (bI (bI ag F.block) F.ifS) nl) by (have h:av F (.mk 30 nt nl np)=bQ 30 [F.expr,F.block,bI (bI ag F.block) F.ifS] (.mk 30 nt nl np):=by simp [av,uL]);rw [h,rf];simp;rfl);by_cases h1:nt=⟨#[]⟩
 rotate_left
 ·(have gz:nt.toList.isEmpty=false:=by rw [af];simpa using h1);have q:=hid (show av F (.mk 30 nt nl np)=false by rw [HR.out,decide_eq_false h1,Bool.false_and]);clear h1;(go_enter Tryz.func27,Tryz.ntmps27);(go_wp2_with fail);go_ret;exact ⟨by rw [q.out];rfl,hB⟩
 subst h1;by_cases h2:nl.length=3
 rotate_left
 ·(have gz:((nl.length:Int)==3)=false:=by rw [beq_eq_false_iff_ne];omega);have q:=hid (show av F (.mk 30 ⟨#[]⟩ nl np)=false by rw [HR.out,se _ _ _ h2,Bool.and_false]);clear h2;generalize nl.length=m at *;(go_enter Tryz.func27,Tryz.ntmps27);(go_wp2_with fail);go_ret;exact ⟨by rw [q.out];rfl,hB⟩
 obtain ⟨x,y,z,rfl⟩:=Ea h2;clear h2;have ga:ax w (.agg #[.int .i64 30,.string ⟨#[]⟩,.slice A 3 cp,.int .i64 np]) (.mk 30 ⟨#[]⟩ [x,y,z] np):=HV.out;have hB:Below w.heap.size w (w.alloc (.cells #[.int .i64 30,.string ⟨#[]⟩,.slice A 3 cp,.int .i64 np] 24)):=hB;have gt:ar (w.alloc (.cells #[.int .i64 30,.string ⟨#[]⟩,.slice A 3 cp,.int .i64 np] 24)) w.heap.size 24 #[.int .i64 30,.string ⟨#[]⟩,.slice A 3 cp,.int .i64 np]:=gt;obtain ⟨bx,ox,A0,c0,rfl,gl⟩:=aU ga 0 (by simp);obtain ⟨hg,he,A1,c1,e,gk⟩:=aU ga 1 (by simp);injection e with e;injection e with e1 e2;subst e1 e2;obtain ⟨hf,hc,A2,c2,e,gj⟩:=aU ga 2 (by simp);injection e with e;injection e with e1 e2;subst e1 e2;simp only [Nd.kids_mk,List.getElem_cons_zero,List.getElem_cons_succ,Nat.zero_mul,Nat.add_zero,Nat.one_mul] at gl gk gj;have U:=hid gl;have g5:=HD.out.kid (k:=x) (by simp);have O:=hid gk;have g1:=HD.out.kid (k:=y) (by simp);have N:=hid gj;have g0:=HD.out.kid (k:=z) (by simp);clear ga HV gl gk gj;have M:=hid (fun w' (h:C4 w' bx ox x A0 c0)=>HE.out _ x w' h.2.2.2.2 g5);have u:=hid (fun w' (h:C4 w' bx (ox+4) y A1 c1)=>g9.out _ y w' h.2.2.2.2 g1);have gd:=hid (fun w' (h:C4 w' bx (ox+2 * 4) z A2 c2)=>cT _ z w' h.2.2.2.2);have g7:=hid (fun w' (h:C4 w' bx (ox+2 * 4) z A2 c2)=>g8.out _ z (w'.alloc (.cells #[.int .i64 36,.int .i64 30] 3)) (ai.below h.2.2.2.2 ((Below.refl _ _).alloc (Nat.le_refl _) _)) g0 [36,30] w'.heap.size 2 (lD.of_blk (ar.new w' 3 #[.int .i64 36,.int .i64 30])) (by decide));have gb:=hid (show av F (.mk 30 ⟨#[]⟩ [x,y,z] np)=(F.expr x&&(F.block y&&(ag z||(decide (z.kind∈([36,30]:List Int))&&F.stmt z)))) by rw [HR.out,←ha.out z];simp [ij,bI,Bool.or_assoc]);generalize (decide (z.kind∈([36,30]:List Int))&&F.stmt z)=rz at *;cases g2:F.expr x with
 | false=>have q:=hid (show av F (.mk 30 ⟨#[]⟩ [x,y,z] np)=false by rw [gb.out,g2];rfl);rw [g2] at M;obtain ⟨gy,gx,gw,gv,-⟩:=U.out.below hB;(go_enter Tryz.func27,Tryz.ntmps27);(go_wp2_with fail);refine (M.out _ (U.out.below hB)).mono ?_;rintro e w1 ⟨rfl,J⟩;have D:=am hB J;(go_wp2_with fail);go_ret;exact ⟨by rw [q.out];rfl,D⟩
 | true=>
  rw [g2] at M;obtain ⟨gy,gx,gw,gv,-⟩:=U.out.below hB;cases g3:F.block y with
  | false=>have q:=hid (show av F (.mk 30 ⟨#[]⟩ [x,y,z] np)=false by rw [gb.out,g2,g3];rfl);rw [g3] at u;(go_enter Tryz.func27,Tryz.ntmps27);(go_wp2_with fail);refine (M.out _ (U.out.below hB)).mono ?_;rintro e w1 ⟨rfl,J⟩;have D:=am hB J;obtain ⟨gr,gq,gp,gn,-⟩:=O.out.below D;(go_wp2_with fail);refine (u.out _ (O.out.below D)).mono ?_;rintro e w2 ⟨rfl,j⟩;have I:=am D j;(go_wp2_with fail);go_ret;exact ⟨by rw [q.out];rfl,I⟩
  | true=>
   rw [g3] at u;cases g4:ag z with
   | true=>have q:=hid (show av F (.mk 30 ⟨#[]⟩ [x,y,z] np)=true by rw [gb.out,g2,g3,g4];rfl);rw [g4] at gd;(go_enter Tryz.func27,Tryz.ntmps27);(go_wp2_with fail);refine (M.out _ (U.out.below hB)).mono ?_;rintro e w1 ⟨rfl,J⟩;have D:=am hB J;obtain ⟨gr,gq,gp,gn,-⟩:=O.out.below D;(go_wp2_with fail);refine (u.out _ (O.out.below D)).mono ?_;rintro e w2 ⟨rfl,j⟩;have I:=am D j;obtain ⟨gi,gh,gg,ge,-⟩:=N.out.below I;(go_wp2_with fail);refine (gd.out _ (N.out.below I)).mono ?_;rintro e w3 ⟨rfl,gm⟩;have K:=am I gm;(go_wp2_with fail);go_ret;exact ⟨by rw [q.out];rfl,K⟩
   | false=>have q:=hid (show av F (.mk 30 ⟨#[]⟩ [x,y,z] np)=rz by rw [gb.out,g2,g3,g4];rfl);rw [g4] at gd;(go_enter Tryz.func27,Tryz.ntmps27);(go_wp2_with fail);refine (M.out _ (U.out.below hB)).mono ?_;rintro e w1 ⟨rfl,J⟩;have D:=am hB J;obtain ⟨gr,gq,gp,gn,-⟩:=O.out.below D;(go_wp2_with fail);refine (u.out _ (O.out.below D)).mono ?_;rintro e w2 ⟨rfl,j⟩;have I:=am D j;obtain ⟨gi,gh,gg,ge,-⟩:=N.out.below I;(go_wp2_with fail);refine (gd.out _ (N.out.below I)).mono ?_;rintro e w3 ⟨rfl,gm⟩;have K:=am I gm;clear gi gh gg ge;obtain ⟨gi,gh,gg,ge,-⟩:=N.out.below K;(go_wp2_with fail);refine (g7.out _ (N.out.below K)).mono ?_;rintro e w4 ⟨rfl,g6⟩;have gu:=K.alloc K.size (.cells #[.int .i64 36,.int .i64 30] 3);(go_wp2_with fail);go_ret;exact ⟨by rw [q.out];rfl,am gu g6⟩
def nH (f g h i:Nd→Bool):List Nd→Bool
 | [a,b,c,d]=>f a&&(g b&&(h c&&i d))
 | _=>false
theorem Ed (f g h i:Nd→Bool) {l:List Nd} (D:l.length≠4):nH f g h i l=false:=by
 rcases l with _ | ⟨x,_ | ⟨y,_ | ⟨z,_ | ⟨u,_ | ⟨o,l⟩⟩⟩⟩⟩
 ·rfl
 ·rfl
 ·rfl
 ·rfl
 ·exact absurd rfl D
 ·rfl
theorem Ee {l:List Nd} (h:l.length=4):∃ x y z u,l=[x,y,z,u]:=by
 rcases l with _ | ⟨x,_ | ⟨y,_ | ⟨z,_ | ⟨u,_ | ⟨o,l⟩⟩⟩⟩⟩
 ·simp at h
 ·simp at h
 ·simp at h
 ·simp at h
 ·exact ⟨x,y,z,u,rfl⟩
 ·simp at h
theorem Il (k:Int) (f g h i:Nd→Bool) (n:Nd):bQ k [f,g,h,i] n=(decide (n.kind=k)&&(decide (n.text=(⟨#[]⟩:BA))&&nH f g h i n.kids)):=by
 unfold bQ;congr 2;rcases n.kids with _ | ⟨x,_ | ⟨y,_ | ⟨z,_ | ⟨u,_ | ⟨o,l⟩⟩⟩⟩⟩
 ·rfl
 ·simp [aH,nH]
 ·simp [aH,nH]
 ·simp [aH,nH]
 ·simp [aH,nH]
 ·simp [aH,nH]
theorem rg (F:bj) (j:Int) (t:ByteArray) (l:List Nd) (p:Int):cB F (.mk j t l p)=(decide (j=26)&&(fF F.expr l&&bA t)):=fX 26 _ _ _
theorem nI (F:bj) (j:Int) (t:ByteArray) (l:List Nd) (p:Int):dS F (.mk j t l p)=(decide (j=28)&&(fF F.expr l&&eZ t)):=fX 28 _ _ _
theorem nJ (F:bj) (j:Int) (t:ByteArray) (l:List Nd) (p:Int):dT F (.mk j t l p)=(decide (j=27)&&(decide (t=(⟨#[]⟩:BA))&&iK F.expr F.expr l)):=mc 27 _ _ _
theorem sf (F:bj) (j:Int) (t:ByteArray) (l:List Nd) (p:Int):dJ F (.mk j t l p)=(decide (j=29)&&(decide (t=(⟨#[]⟩:BA))&&fF (fN F) l)):=oq 29 _ _
theorem uI {d:Nat} {k:Nd} (D:cq d k):(cB (aa d) k||(dT (aa d) k||dS (aa d) k))=(decide (k.kind∈([26,27,28]:List Int))&&(aa d).stmt k):=by
 cases d with
 | zero=>exact D.elim
 | succ d=>
  rw [←ul (ch d) k D,←wK (ch d) k D,←wL (ch d) k D];show _=(decide (k.kind∈([26,27,28]:List Int))&&av (aa d) k);generalize aa d=F;obtain ⟨j,t,l,p⟩:=k;rw [rg,nJ,nI];by_cases K:j=26
  ·subst K;simp [av,rg]
  by_cases J:j=27
  ·subst J;simp [av,nJ]
  by_cases I:j=28
  ·subst I;simp [av,nI]
  ·simp [K,J,I]
theorem yl {d:Nat} {k:Nd} (D:cq d k):(dT (aa d) k||(dS (aa d) k||dJ (aa d) k))=(decide (k.kind∈([27,28,29]:List Int))&&(aa d).stmt k):=by
 cases d with
 | zero=>exact D.elim
 | succ d=>
  rw [←wK (ch d) k D,←wL (ch d) k D,←yK (ch d) k D];show _=(decide (k.kind∈([27,28,29]:List Int))&&av (aa d) k);generalize aa d=F;obtain ⟨j,t,l,p⟩:=k;rw [sf,nJ,nI];by_cases K:j=27
  ·subst K;simp [av,nJ]
  by_cases J:j=28
  ·subst J;simp [av,nI]
  by_cases I:j=29
  ·subst I;simp [av,sf]
  ·simp [K,J,I]
theorem Ef (d:Nat) (C:fM d) (nt:ByteArray) (nl:List Nd) (np:Int) (A:Option Addr) (cp:Nat) (w:World) (hv:ax w (.agg #[.int .i64 31,.string nt,.slice A nl.length cp,.int .i64 np]) (.mk 31 nt nl np)) (hd:cq (d+1) (.mk 31 nt nl np)) :
  Calls Tryz.prog 27 #[.agg #[.int .i64 31,.string nt,.slice A nl.length cp,.int .i64 np]] w fun e w'=>e=.returned (.bool (av (aa d) (.mk 31 nt nl np)))∧Below w.heap.size w w':=by
 have HV:=hid hv;have HD:=hid hd;have hj:=hd.1.1;have HT:=hid C.typ;have HE:=hid C.expr;have jv:=hid C.block;have jb:=hid (sd d C.stmt);have ju:=hid (fun k hk=>uI (d:=d) (k:=k) hk);have js:=hid (fun k hk=>yl (d:=d) (k:=k) hk);have hB:=(ae w #[.int .i64 31,.string nt,.slice A nl.length cp,.int .i64 np]).1;have h5:=(ae w #[.int .i64 31,.string nt,.slice A nl.length cp,.int .i64 np]).2;clear hv hd C;generalize aa d=F at *;simp only [Nd.kids_mk] at hj;have HR:=hid (show av F (.mk 31 nt nl np)=(decide (nt=(⟨#[]⟩:BA))&&nH (bI (bI ag (cB F)) (bI (dT F) (dS F))) (bI ag F.expr) (bI (bI ag (dT F)) (bI (dS F) (dJ F))) F.block nl) by (have h:av F (.mk 31 nt nl np)=bQ 31 [bI (bI ag (cB F)) (bI (dT F) (dS F)),bI ag F.expr,bI (bI ag (dT F)) (bI (dS F) (dJ F)),F.block] (.mk 31 nt nl np):=by simp [av]);rw [h,Il];simp;rfl);by_cases h1:nt=⟨#[]⟩
 rotate_left
 ·(have jd:nt.toList.isEmpty=false:=by rw [af];simpa using h1);have HX:=hid (show av F (.mk 31 nt nl np)=false by rw [HR.out,decide_eq_false h1,Bool.false_and]);clear h1;(go_enter Tryz.func27,Tryz.ntmps27);(go_wp2_with fail);go_ret;exact ⟨by rw [HX.out];rfl,hB⟩
 subst h1;by_cases h2:nl.length=4
 rotate_left
 ·(have jd:((nl.length:Int)==4)=false:=by rw [beq_eq_false_iff_ne];omega);have HX:=hid (show av F (.mk 31 ⟨#[]⟩ nl np)=false by rw [HR.out,Ed _ _ _ _ h2,Bool.and_false]);clear h2;generalize nl.length=m at *;(go_enter Tryz.func27,Tryz.ntmps27);(go_wp2_with fail);go_ret;exact ⟨by rw [HX.out];rfl,hB⟩
 obtain ⟨x,y,z,u,rfl⟩:=Ee h2;clear h2;have gv:ax w (.agg #[.int .i64 31,.string ⟨#[]⟩,.slice A 4 cp,.int .i64 np]) (.mk 31 ⟨#[]⟩ [x,y,z,u] np):=HV.out;have hB:Below w.heap.size w (w.alloc (.cells #[.int .i64 31,.string ⟨#[]⟩,.slice A 4 cp,.int .i64 np] 24)):=hB;have h5:ar (w.alloc (.cells #[.int .i64 31,.string ⟨#[]⟩,.slice A 4 cp,.int .i64 np] 24)) w.heap.size 24 #[.int .i64 31,.string ⟨#[]⟩,.slice A 4 cp,.int .i64 np]:=h5;obtain ⟨bx,ox,A0,c0,rfl,hi⟩:=aU gv 0 (by simp);obtain ⟨j1,jy,A1,c1,e,hh⟩:=aU gv 1 (by simp);injection e with e;injection e with e1 e2;subst e1 e2;obtain ⟨j0,jx,A2,c2,e,hg⟩:=aU gv 2 (by simp);injection e with e;injection e with e1 e2;subst e1 e2;obtain ⟨jz,jw,A3,c3,e,hf⟩:=aU gv 3 (by simp);injection e with e;injection e with e1 e2;subst e1 e2;simp only [Nd.kids_mk,List.getElem_cons_zero,List.getElem_cons_succ,Nat.zero_mul,Nat.add_zero,Nat.one_mul] at hi hh hg hf;have g7:=hid hi;have hm:=HD.out.kid (k:=x) (by simp);have ga:=hid hh;have jf:=HD.out.kid (k:=y) (by simp);have I:=hid hg;have hl:=HD.out.kid (k:=z) (by simp);have D:=hid hf;have je:=HD.out.kid (k:=u) (by simp);clear gv HV hi hh hg hf;have jr:=hid (fun w' (h:C4 w' bx ox x A0 c0)=>cT _ x w' h.2.2.2.2);have ja:=hid (fun w' (h:C4 w' bx (ox+4) y A1 c1)=>cT _ y w' h.2.2.2.2);have gz:=hid (fun w' (h:C4 w' bx (ox+2 * 4) z A2 c2)=>cT _ z w' h.2.2.2.2);have jc:=hid (fun w' (h:C4 w' bx (ox+4) y A1 c1)=>HE.out _ y w' h.2.2.2.2 jf);have gb:=hid (fun w' (h:C4 w' bx (ox+3 * 4) u A3 c3)=>jv.out _ u w' h.2.2.2.2 je);have jt:=hid (fun w' (h:C4 w' bx ox x A0 c0)=>jb.out _ x (w'.alloc (.cells #[.int .i64 26,.int .i64 27,.int .i64 28] 3)) (ai.below h.2.2.2.2 ((Below.refl _ _).alloc (Nat.le_refl _) _)) hm [26,27,28] w'.heap.size 3 (lD.of_blk (ar.new w' 3 #[.int .i64 26,.int .i64 27,.int .i64 28])) (by decide));have g0:=hid (fun w' (h:C4 w' bx (ox+2 * 4) z A2 c2)=>jb.out _ z (w'.alloc (.cells #[.int .i64 27,.int .i64 28,.int .i64 29] 3)) (ai.below h.2.2.2.2 ((Below.refl _ _).alloc (Nat.le_refl _) _)) hl [27,28,29] w'.heap.size 3 (lD.of_blk (ar.new w' 3 #[.int .i64 27,.int .i64 28,.int .i64 29])) (by decide));have O:=hid (show av F (.mk 31 ⟨#[]⟩ [x,y,z,u] np)=((ag x||(decide (x.kind∈([26,27,28]:List Int))&&F.stmt x))&&((ag y||F.expr y)&&((ag z||(decide (z.kind∈([27,28,29]:List Int))&&F.stmt z))&&F.block u))) by rw [HR.out,←ju.out x hm,←js.out z hl];simp [nH,bI,Bool.or_assoc]);generalize (decide (x.kind∈([26,27,28]:List Int))&&F.stmt x)=rx at *;generalize (decide (z.kind∈([27,28,29]:List Int))&&F.stmt z)=rz at *;clear HR;obtain ⟨he,hc,ha,g8,-⟩:=g7.out.below hB;(go_enter Tryz.func27,Tryz.ntmps27);(go_wp2_with fail);refine (jr.out _ (g7.out.below hB)).mono ?_;rintro e w1 ⟨rfl,jo⟩;have gp:=am hB jo;clear he hc ha g8;cases g1:ag x with
 | false=>
  obtain ⟨he,hc,ha,g8,-⟩:=g7.out.below gp;(go_wp2_with fail);refine (jt.out _ (g7.out.below gp)).mono ?_;rintro e w2 ⟨rfl,jn⟩;have jq:=gp.alloc gp.size (.cells #[.int .i64 26,.int .i64 27,.int .i64 28] 3);have gy:=am jq jn;clear he hc ha g8;cases g2:rx with
  | false=>(go_wp2_with fail);go_ret;exact ⟨by rw [O.out,g1,g2];rfl,gy⟩
  | true=>
   obtain ⟨gl,gk,gj,gi,-⟩:=ga.out.below gy;(go_wp2_with fail);refine (ja.out _ (ga.out.below gy)).mono ?_;rintro e w3 ⟨rfl,jm⟩;have gu:=am gy jm;clear gl gk gj gi;cases g3:ag y with
   | false=>
    obtain ⟨gl,gk,gj,gi,-⟩:=ga.out.below gu;(go_wp2_with fail);refine (jc.out _ (ga.out.below gu)).mono ?_;rintro e w4 ⟨rfl,jl⟩;have gx:=am gu jl;clear gl gk gj gi;cases g4:F.expr y with
    | false=>(go_wp2_with fail);go_ret;exact ⟨by rw [O.out,g1,g2,g3,g4];rfl,gx⟩
    | true=>
     obtain ⟨N,M,K,J,-⟩:=I.out.below gx;(go_wp2_with fail);refine (gz.out _ (I.out.below gx)).mono ?_;rintro e w5 ⟨rfl,jk⟩;have gn:=am gx jk;clear N M K J;cases g5:ag z with
     | false=>
      obtain ⟨N,M,K,J,-⟩:=I.out.below gn;(go_wp2_with fail);refine (g0.out _ (I.out.below gn)).mono ?_;rintro e w6 ⟨rfl,jj⟩;have jp:=gn.alloc gn.size (.cells #[.int .i64 27,.int .i64 28,.int .i64 29] 3);have gw:=am jp jj;clear N M K J;cases g6:rz with
      | false=>(go_wp2_with fail);go_ret;exact ⟨by rw [O.out,g1,g2,g3,g4,g5,g6];rfl,gw⟩
      | true=>obtain ⟨gh,gg,ge,gd,-⟩:=D.out.below gw;(go_wp2_with fail);refine (gb.out _ (D.out.below gw)).mono ?_;rintro e w7 ⟨rfl,ji⟩;(go_wp2_with fail);go_ret;exact ⟨by rw [O.out,g1,g2,g3,g4,g5,g6];rfl,am gw ji⟩
     | true=>obtain ⟨gh,gg,ge,gd,-⟩:=D.out.below gn;(go_wp2_with fail);refine (gb.out _ (D.out.below gn)).mono ?_;rintro e w8 ⟨rfl,jh⟩;(go_wp2_with fail);go_ret;exact ⟨by rw [O.out,g1,g2,g3,g4,g5];rfl,am gn jh⟩
   | true=>
    obtain ⟨N,M,K,J,-⟩:=I.out.below gu;(go_wp2_with fail);refine (gz.out _ (I.out.below gu)).mono ?_;rintro e w9 ⟨rfl,jg⟩;have gm:=am gu jg;clear N M K J;cases g9:ag z with
    | false=>
     obtain ⟨N,M,K,J,-⟩:=I.out.below gm;(go_wp2_with fail);refine (g0.out _ (I.out.below gm)).mono ?_;rintro e w10 ⟨rfl,h4⟩;have h8:=gm.alloc gm.size (.cells #[.int .i64 27,.int .i64 28,.int .i64 29] 3);have gt:=am h8 h4;clear N M K J;cases g10:rz with
     | false=>(go_wp2_with fail);go_ret;exact ⟨by rw [O.out,g1,g2,g3,g9,g10];rfl,gt⟩
     | true=>obtain ⟨gh,gg,ge,gd,-⟩:=D.out.below gt;(go_wp2_with fail);refine (gb.out _ (D.out.below gt)).mono ?_;rintro e w11 ⟨rfl,h3⟩;(go_wp2_with fail);go_ret;exact ⟨by rw [O.out,g1,g2,g3,g9,g10];rfl,am gt h3⟩
    | true=>obtain ⟨gh,gg,ge,gd,-⟩:=D.out.below gm;(go_wp2_with fail);refine (gb.out _ (D.out.below gm)).mono ?_;rintro e w12 ⟨rfl,h0⟩;(go_wp2_with fail);go_ret;exact ⟨by rw [O.out,g1,g2,g3,g9];rfl,am gm h0⟩
 | true=>
  obtain ⟨gl,gk,gj,gi,-⟩:=ga.out.below gp;(go_wp2_with fail);refine (ja.out _ (ga.out.below gp)).mono ?_;rintro e w13 ⟨rfl,hz⟩;have q:=am gp hz;clear gl gk gj gi;cases g13:ag y with
  | false=>
   obtain ⟨gl,gk,gj,gi,-⟩:=ga.out.below q;(go_wp2_with fail);refine (jc.out _ (ga.out.below q)).mono ?_;rintro e w14 ⟨rfl,hy⟩;have gs:=am q hy;clear gl gk gj gi;cases g14:F.expr y with
   | false=>(go_wp2_with fail);go_ret;exact ⟨by rw [O.out,g1,g13,g14];rfl,gs⟩
   | true=>
    obtain ⟨N,M,K,J,-⟩:=I.out.below gs;(go_wp2_with fail);refine (gz.out _ (I.out.below gs)).mono ?_;rintro e w15 ⟨rfl,hw⟩;have j:=am gs hw;clear N M K J;cases g15:ag z with
    | false=>
     obtain ⟨N,M,K,J,-⟩:=I.out.below j;(go_wp2_with fail);refine (g0.out _ (I.out.below j)).mono ?_;rintro e w16 ⟨rfl,hu⟩;have h7:=j.alloc j.size (.cells #[.int .i64 27,.int .i64 28,.int .i64 29] 3);have gr:=am h7 hu;clear N M K J;cases g16:rz with
     | false=>(go_wp2_with fail);go_ret;exact ⟨by rw [O.out,g1,g13,g14,g15,g16];rfl,gr⟩
     | true=>obtain ⟨gh,gg,ge,gd,-⟩:=D.out.below gr;(go_wp2_with fail);refine (gb.out _ (D.out.below gr)).mono ?_;rintro e w17 ⟨rfl,ht⟩;(go_wp2_with fail);go_ret;exact ⟨by rw [O.out,g1,g13,g14,g15,g16];rfl,am gr ht⟩
    | true=>obtain ⟨gh,gg,ge,gd,-⟩:=D.out.below j;(go_wp2_with fail);refine (gb.out _ (D.out.below j)).mono ?_;rintro e w18 ⟨rfl,hr⟩;(go_wp2_with fail);go_ret;exact ⟨by rw [O.out,g1,g13,g14,g15];rfl,am j hr⟩
  | true=>
   obtain ⟨N,M,K,J,-⟩:=I.out.below q;(go_wp2_with fail);refine (gz.out _ (I.out.below q)).mono ?_;rintro e w19 ⟨rfl,hq⟩;have U:=am q hq;clear N M K J;cases g19:ag z with
   | false=>
    obtain ⟨N,M,K,J,-⟩:=I.out.below U;(go_wp2_with fail);refine (g0.out _ (I.out.below U)).mono ?_;rintro e w20 ⟨rfl,hp⟩;have h6:=U.alloc U.size (.cells #[.int .i64 27,.int .i64 28,.int .i64 29] 3);have gq:=am h6 hp;clear N M K J;cases g20:rz with
    | false=>(go_wp2_with fail);go_ret;exact ⟨by rw [O.out,g1,g13,g19,g20];rfl,gq⟩
    | true=>obtain ⟨gh,gg,ge,gd,-⟩:=D.out.below gq;(go_wp2_with fail);refine (gb.out _ (D.out.below gq)).mono ?_;rintro e w21 ⟨rfl,ho⟩;(go_wp2_with fail);go_ret;exact ⟨by rw [O.out,g1,g13,g19,g20];rfl,am gq ho⟩
   | true=>obtain ⟨gh,gg,ge,gd,-⟩:=D.out.below U;(go_wp2_with fail);refine (gb.out _ (D.out.below U)).mono ?_;rintro e w22 ⟨rfl,hn⟩;(go_wp2_with fail);go_ret;exact ⟨by rw [O.out,g1,g13,g19];rfl,am U hn⟩
theorem ym (F:bj) (k:Int) (t:ByteArray) (l:List Nd) (p:Int) (h5:k≠5) (h:∀ j:Int,26≤j→j≤35→k≠j):av F (.mk k t l p)=bm F (.mk k t l p):=by have u:=h 26 (by decide) (by decide);have q:=h 27 (by decide) (by decide);have U:=h 28 (by decide) (by decide);have O:=h 29 (by decide) (by decide);have N:=h 30 (by decide) (by decide);have M:=h 31 (by decide) (by decide);have K:=h 32 (by decide) (by decide);have J:=h 33 (by decide) (by decide);have I:=h 34 (by decide) (by decide);have D:=h 35 (by decide) (by decide);simp [av,h5,u,q,U,O,N,M,K,J,I,D]
theorem By (d:Nat) (C:fM d) (v:Value) (n:Nd) (w:World) (D:ax w v n) (hd:cq (d+1) n) :
  Calls Tryz.prog 27 #[v] w fun e w'=>e=.returned (.bool (av (aa d) n))∧Below w.heap.size w w':=by
 obtain ⟨A,cp,rfl,hC⟩:=D.toC;have gd:=hid (fun w' (hb:Below w.heap.size w w')=>rc d C.stmt _ n w' (ai.below D hb) hd);obtain ⟨nk,nt,nl,np⟩:=n;simp only [Nd.kind_mk,Nd.text_mk,Nd.kids_mk,Nd.pos_mk] at *;by_cases h5:nk=5
 ·subst h5;exact FM d C nt nl np A cp w D hd
 by_cases u:nk=26
 ·subst u;exact D3 d C nt nl np A cp w D hd
 by_cases q:nk=27
 ·subst q;exact D4 d C nt nl np A cp w D hd
 by_cases h:nk=28
 ·subst h;exact D5 d C nt nl np A cp w D hd
 by_cases U:nk=29
 ·subst U;exact D6 d C nt nl np A cp w D hd
 by_cases O:nk=30
 ·subst O;exact Ec d C nt nl np A cp w D hd
 by_cases N:nk=31
 ·subst N;exact Ef d C nt nl np A cp w D hd
 by_cases M:nk=32
 ·subst M;exact Eb d C nt nl np A cp w D hd
 by_cases K:nk=33
 ·subst K;exact D7 d C nt nl np A cp w D hd
 by_cases J:nk=34
 ·subst J;exact D8 d C nt nl np A cp w D hd
 by_cases I:nk=35
 ·subst I;exact D9 d C nt nl np A cp w D hd
 have HX:=hid (ym (aa d) nk nt nl np h5 (fun j h1 h2 e=>by omega));have hB:=(ae w #[.int .i64 nk,.string nt,.slice A nl.length cp,.int .i64 np]).1;have gb:=(ae w #[.int .i64 nk,.string nt,.slice A nl.length cp,.int .i64 np]).2;obtain ⟨x0,x1,x2,x3,-,-,-,-⟩:=ac gb;(have e5:(nk==5)=false:=by rw [beq_eq_false_iff_ne];exact h5);(have gp:(nk==26)=false:=by rw [beq_eq_false_iff_ne];exact u);(have gn:(nk==27)=false:=by rw [beq_eq_false_iff_ne];exact q);(have gm:(nk==28)=false:=by rw [beq_eq_false_iff_ne];exact h);(have gl:(nk==29)=false:=by rw [beq_eq_false_iff_ne];exact U);(have gk:(nk==30)=false:=by rw [beq_eq_false_iff_ne];exact O);(have gj:(nk==31)=false:=by rw [beq_eq_false_iff_ne];exact N);(have gi:(nk==32)=false:=by rw [beq_eq_false_iff_ne];exact M);(have gh:(nk==33)=false:=by rw [beq_eq_false_iff_ne];exact K);(have gg:(nk==34)=false:=by rw [beq_eq_false_iff_ne];exact J);(have ge:(nk==35)=false:=by rw [beq_eq_false_iff_ne];exact I);clear D hd hC C h5 u q h U O N M K J I;generalize nl.length=m at *;(go_enter Tryz.func27,Tryz.ntmps27);(go_wp2_with fail);refine (gd.out _ hB).mono ?_;rintro e w1 ⟨rfl,ga⟩;(go_wp2_with fail);go_ret;exact ⟨by rw [HX.out];rfl,am hB ga⟩
theorem rh:∀ d,fM d
 | 0=>⟨fun _ _ _ _ h=>h.elim,fun _ _ _ _ h=>h.elim,fun _ _ _ _ h=>h.elim,fun _ _ _ _ h=>h.elim⟩
 | d+1=>⟨DR (d+1),fun v n w hv hd=>Bx d (rh d) v n w hv hd,fun v n w hv hd=>By d (rh d) v n w hv hd,fun v n w hv hd=>rc d (rh d).stmt v n w hv hd⟩
def Eg (F:bj) (k:Int) (l:List Nd):Bool:=
 if k=2 then iK (dn F) F.block l
 else if k=3 then fF (bI (bI F.typ (aZ F)) (aV F)) l
 else if k=4 then fF F.typ l
 else false
theorem FN (F:bj) (t:ByteArray) (l:List Nd) (p:Int):a8 F (.mk 5 t l p)=fd F (.mk 5 t l p):=by simp [a8]
theorem iL (k:Int) (f g h:Nd→Bool) (so:ByteArray→Bool) (l:List Nd) {t:ByteArray} {p:Int} : bQ k [f,g,h] (aq so (.mk k t l p))=(ij f g h l&&so t):=by
 rw [show aq so (.mk k t l p)=if so t=true then .mk k (⟨#[]⟩:BA) l p else .mk 37 (⟨#[]⟩:BA) [] 0 from rfl];by_cases hs:so t=true
 ·rw [if_pos hs,rf];simp [hs]
 ·rw [if_neg hs,rf];rw [Bool.not_eq_true] at hs;simp [hs,ij]
theorem mf (F:bj) (k:Int) (t:ByteArray) (x:Nd) (l:List Nd) (p:Int) (K:k≠5) (M:0<l.length):a8 F (.mk k t (x::l) p)=(aw t&&(aR F x&&Eg F k l)):=by
 unfold a8 Eg;by_cases D:k=2
 ·subst D;simp only [Nd.kind_mk,if_true,iL];rw [Bool.and_comm];congr 1;rcases l with _ | ⟨a,_ | ⟨b,_ | ⟨c,l⟩⟩⟩ <;> simp [ij,iK]
 by_cases I:k=3
 ·subst I;simp only [Nd.kind_mk,if_true,if_neg D,dj];rw [Bool.and_comm];congr 1;rcases l with _ | ⟨a,_ | ⟨b,l⟩⟩ <;> simp [iK,fF]
 by_cases J:k=4
 ·subst J;simp only [Nd.kind_mk,if_true,if_neg D,if_neg I,dj];rw [Bool.and_comm];congr 1;rcases l with _ | ⟨a,_ | ⟨b,l⟩⟩ <;> simp [iK,fF]
 ·simp [D,I,J,K,pb]
theorem Bz (F:bj) (k:Int) (t:ByteArray) (l:List Nd) (p:Int) (K:k≠5) (M:l.length<2):a8 F (.mk k t l p)=false:=by
 unfold a8;by_cases D:k=2
 ·subst D;simp only [Nd.kind_mk,if_true,iL];rw [se _ _ _ (by omega),Bool.false_and]
 by_cases I:k=3
 ·subst I;simp only [Nd.kind_mk,if_true,if_neg D,dj];rw [mu _ _ (by omega),Bool.false_and]
 by_cases J:k=4
 ·subst J;simp only [Nd.kind_mk,if_true,if_neg D,if_neg I,dj];rw [mu _ _ (by omega),Bool.false_and]
 ·simp [D,I,J,K,pb]
theorem yn (F:bj) (k:Int) (t:ByteArray) (l:List Nd) (p:Int) (M:k≠5) (I:aw t=false):a8 F (.mk k t l p)=false:=by
 unfold a8;by_cases D:k=2
 ·subst D;simp only [Nd.kind_mk,if_true,iL,I,Bool.and_false]
 by_cases J:k=3
 ·subst J;simp only [Nd.kind_mk,if_true,if_neg D,dj,I,Bool.and_false]
 by_cases K:k=4
 ·subst K;simp only [Nd.kind_mk,if_true,if_neg D,if_neg J,dj,I,Bool.and_false]
 ·simp [D,J,K,M,pb]
end
end Go.Proofs.YtiebcdeafofgdaaGreatDoor
