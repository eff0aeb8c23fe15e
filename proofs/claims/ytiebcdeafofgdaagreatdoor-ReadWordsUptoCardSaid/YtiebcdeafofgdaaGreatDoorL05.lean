/-
  Parts of the proof: Tsig Tdecl Tparam Tvar Ttail. By an AI agent.
-/
import Derived.Test.YtiebcdeafofgdaaGreatDoorL04
import Derived.Laws.EntriesVeiled
import Derived.Laws.Slices
set_option maxRecDepth 100000
set_option maxHeartbeats 8000000
namespace Go.Proofs.YtiebcdeafofgdaaGreatDoor
section
open Go.RowKit Go.Lib Go.Proofs
attribute [local go_sem ↓] Go.wp_at_zero Go.wp_at_succ
structure nu (g:Nat) (F:bj):Prop where
 typ:et g F.typ 121
 expr:et g F.expr 122
 block:et g F.block 157
 stmt:et g F.stmt 123
 ifS:et g F.ifS 173
theorem nu.pred {d:Nat} {F:bj} (h:nu (d+1) F):nu d F:=
 ⟨h.typ.le fun _=>cq.succ,h.expr.le fun _=>cq.succ,h.block.le fun _=>cq.succ,h.stmt.le fun _=>cq.succ,h.ifS.le fun _=>cq.succ⟩
theorem eV (a:Array Value) (w:World):(callFunc 121 a).run Tryz.prog w=.ok (.enter 121 a) w:=by kernel_rfl
theorem cu (a:Array Value) (w:World):(callFunc 122 a).run Tryz.prog w=.ok (.enter 122 a) w:=by kernel_rfl
theorem fV (a:Array Value) (w:World):(callFunc 157 a).run Tryz.prog w=.ok (.enter 157 a) w:=by kernel_rfl
theorem Cc (a:Array Value) (w:World):(callFunc 123 a).run Tryz.prog w=.ok (.enter 123 a) w:=by kernel_rfl
theorem Gi (a:Array Value) (w:World):(callFunc 173 a).run Tryz.prog w=.ok (.enter 173 a) w:=by kernel_rfl
theorem AE (a:Array Value) (w:World):(callFunc 174 a).run Tryz.prog w=.ok (.enter 174 a) w:=by kernel_rfl
theorem fz (d:Nat) (w0:World):ln d ag ⟨174,#[]⟩ w0:=⟨AE,fun w v n _ hv _=>nO w v n hv⟩
theorem cG.new {w:World} {b:Nat} (fs:List (Fv × (Nd→Bool))) {cs:Array Value} (D:cs=(fs.map fun x=>Value.func (.func x.1.k) #[] x.1.cap).toArray) (h:ar w b 37 cs):cG w (some ⟨b,0,none⟩) fs:=
 .inr ⟨b,rfl,by rw [←D];exact h⟩
theorem Cd (g:Nat) (F:bj) (u:nu g F) (so:ByteArray→Bool) (f:Fv) (b:Nat) (w0:World) (q:bR w0) (hs:ti so f w0) (hb:ar w0 b 49 #[.func (.func f.k) #[] f.cap]) :
  ln g (dI F so) ⟨210,#[.pointer (some ⟨b,0,none⟩)]⟩ w0:=by
 refine ⟨fun a w=>by kernel_rfl,fun w v n hw hv hd=>?_⟩;cases g with
 | zero=>exact hd.elim
 | succ d=>have M:=hv;obtain ⟨A,cp,rfl,hC⟩:=hv.toC;have hB:=(ae w (nv n A cp)).1;have D:=hw.alloc hw.size (.cells (nv n A cp) 24);have ca:=bc (hb.bl D);have HN:=hid (bM _ _ n (M.below hB) f so (hs.below D) hd.txt);have HT:=hid (q.below D);have HF:=hid u;have HD:=hid hd;have gb:=hb.lt;have ga:=hw.size;show Calls _ _ _ w fun e w'=>e=.returned (.bool (bQ 8 [F.typ] (aq so n)))∧_;clear M hv hC hb hs q u hd;(go_enter Tryz.func210,Tryz.ntmps210);(go_wp2_with fail);refine HN.out.mono ?_;rintro e w1 ⟨v1,rfl,O,J⟩;have j:=hid (HT.out.below J);have h:=am hB J;clear J HN hB D ca HT;(go_wp2_with fail);have I:=(Below.refl w1.heap.size w1).alloc (Nat.le_refl _) (.cells #[.func (.func 121) #[] #[]] 37);have N:=am h I;refine (bw d [(⟨121,#[]⟩,F.typ)] 8 v1 (aq so n) _ _ 1 rfl (by omega) (O.below I) HD.out.named (cG.new _ rfl (ar.new w1 _ _)) (by intro x hx;obtain rfl:=List.mem_singleton.1 hx;exact HF.out.pred.typ.so eV _ (j.out.below I))).mono ?_;rintro e w2 ⟨rfl,K⟩;have U:=am N K;clear I K N;(go_wp2_with fail);go_ret;exact ⟨rfl,U⟩
theorem Ce (g:Nat) (P:Nd→Bool) (f:Fv) (b:Nat) (w0:World) (hs:ln g P f w0) (hb:ar w0 b 37 #[.func (.func f.k) #[] f.cap]) :
  ln g (eP P) ⟨211,#[.pointer (some ⟨b,0,none⟩)]⟩ w0:=by
 refine ⟨fun a w=>by kernel_rfl,fun w v n hw hv hd=>?_⟩;cases g with
 | zero=>exact hd.elim
 | succ d=>have J:=hv;obtain ⟨A,cp,rfl,U⟩:=hv.toC;have hB:=(ae w (nv n A cp)).1;have D:=hw.alloc hw.size (.cells (nv n A cp) 24);have ca:=bc (hb.bl D);have M:=hid (tn d P f _ n _ (J.below hB) hd ⟨hs.enter,fun w' v' n' h1 h2 h3=>hs.out w' v' n' (am D h1) h2 h3.succ⟩);have O:=hb.lt;have N:=hw.size;clear J hv U hb hs hd;(go_enter Tryz.func211,Tryz.ntmps211);(go_wp2_with fail);refine M.out.mono ?_;rintro e w1 ⟨rfl,I⟩;have K:=am hB I;clear I M hB;(go_wp2_with fail);go_ret;exact ⟨rfl,K⟩
theorem fT {w:World} {g:Nat} {t:TypeId} {a b c d:Value} (h:ar w g t #[a,b,c,d]):w.cell? ⟨g,0,none⟩=some a∧w.cell? ⟨g,1,none⟩=some b∧w.cell? ⟨g,2,none⟩=some c∧w.cell? ⟨g,3,none⟩=some d:=by obtain ⟨K,J,I,D,_⟩:=ac h;exact ⟨K,J,I,D⟩
theorem tS {d:Nat} {w:World} {f g:Fv} {P Q:Nd→Bool} (I:ln d P f w) (D:ln d Q g w):∀ x∈[(f,P),(g,Q)],ln d x.2 x.1 w:=by
 intro x hx;rcases List.mem_cons.1 hx with rfl | hx
 ·exact I
 ·obtain rfl:=List.mem_singleton.1 hx;exact D
theorem yw (g:Nat) (F:bj) (hF:nu g F) (so:ByteArray→Bool) (f:Fv) (v:Value) (n:Nd) (w:World) (hT:bR w) (j:ax w v n) (hd:cq (g+1) n) (hs:ti so f w) :
  Calls Tryz.prog 162 #[v,.func (.func f.k) #[] f.cap] w fun e w'=>e=.returned (.bool (ep F so n))∧Below w.heap.size w w':=by
 have M:=j;obtain ⟨A,cp,rfl,hC⟩:=j.toC;have HV:=hid M;have HT:=hid hT;have HS:=hid hs;have HD:=hid hd;have HF:=hid hF;clear M j hC hT hs hd hF;show Calls _ _ _ w fun e w'=>e=.returned (.bool (bQ 12 [eP (dI F so),bI ag F.typ] n))∧_;(go_enter Tryz.func162,Tryz.ntmps162);(go_wp2_with fail);have c0:ar (((w.alloc (.cells (nv n A cp) 24)).alloc (.cells #[.func (.func f.k) #[] f.cap] 49)).alloc (.cells #[.func (.func 210) #[] #[.pointer (some ⟨w.heap.size+1,0,none⟩)]] 37)) w.heap.size 24 (nv n A cp):=((ar.new w _ _).alloc _).alloc _;have c1:ar (((w.alloc (.cells (nv n A cp) 24)).alloc (.cells #[.func (.func f.k) #[] f.cap] 49)).alloc (.cells #[.func (.func 210) #[] #[.pointer (some ⟨w.heap.size+1,0,none⟩)]] 37)) (w.heap.size+1) 49 #[.func (.func f.k) #[] f.cap]:=(ar.new_at (by simp) _ _).alloc _;have c2:ar (((w.alloc (.cells (nv n A cp) 24)).alloc (.cells #[.func (.func f.k) #[] f.cap] 49)).alloc (.cells #[.func (.func 210) #[] #[.pointer (some ⟨w.heap.size+1,0,none⟩)]] 37)) (w.heap.size+1+1) 37 #[.func (.func 210) #[] #[.pointer (some ⟨w.heap.size+1,0,none⟩)]]:=ar.new_at (by simp) _ _;have hB:Below w.heap.size w (((w.alloc (.cells (nv n A cp) 24)).alloc (.cells #[.func (.func f.k) #[] f.cap] 49)).alloc (.cells #[.func (.func 210) #[] #[.pointer (some ⟨w.heap.size+1,0,none⟩)]] 37)):=lJ;generalize (((w.alloc (.cells (nv n A cp) 24)).alloc (.cells #[.func (.func f.k) #[] f.cap] 49)).alloc (.cells #[.func (.func 210) #[] #[.pointer (some ⟨w.heap.size+1,0,none⟩)]] 37))=W at *;have u:=hid (HV.out.below hB);have O:=hid (HT.out.below hB);have HL:=hid (Ce g (dI F so) ⟨210,#[.pointer (some ⟨w.heap.size+1,0,none⟩)]⟩ (w.heap.size+1+1) W (Cd g F HF.out so f _ W O.out (HS.out.below hB) c1) c2);have J:=c0.lt;have gb:=c2.lt;have I:Below W.heap.size W W.drew:=(Below.refl _ _).drew;have ga:=hid (O.out.below I);have N:=am hB I;have C0:=hid c0.drew;clear c1 c2 c0 hB HT HV HS;go_region_held3 (fun w'=>w'.cell? ⟨w.heap.size,0,none⟩=some (.int .i64 n.kind)∧w'.cell? ⟨w.heap.size,1,none⟩=some (.string n.text)∧w'.cell? ⟨w.heap.size,2,none⟩=some (.slice A n.kids.length cp)∧w'.cell? ⟨w.heap.size,3,none⟩=some (.int .i64 n.pos))
  (first | with_reducible exact fT q3 | with_reducible exact fT (U.alloc _) | with_reducible exact fT U | with_reducible exact fT C0.out)
  (first
   | (go_at_call 158;refine (d8 g ag F.typ ⟨174,#[]⟩ ⟨121,#[]⟩ _ (fz g _) (HF.out.typ.so eV _ ga.out)).mono ?_;rintro e w2 ⟨h,rfl,q,D⟩;have U:=C0.out.below D J)
   | (go_at_call 154;refine (bw g [(⟨211,#[.pointer (some ⟨w.heap.size+1+1,0,none⟩)]⟩,eP (dI F so)),(h,bI ag F.typ)] 12 _ n _ _ 2 rfl (by omega) ((u.out.below I).below (D.alloc D.size _)) HD.out (cG.new _ rfl (ar.new w2 _ _)) (tS ((HL.out.below I).below (D.alloc D.size _)) (q.below ((Below.refl _ w2).alloc (Nat.le_refl _) _)))).mono ?_;rintro e w3 ⟨rfl,K⟩;have q3:=(U.alloc _).below K (Nat.lt_of_lt_of_le J (Nat.le_trans D.size (by simp)))))
 (all_goals go_wp2_with fail);(all_goals go_ret);all_goals exact ⟨rfl,(am N D).trans ((((Below.refl _ w2).alloc (Nat.le_refl _) _).trans (K.mono (by simp))).mono (Nat.le_trans N.size D.size))⟩
theorem eu {d:Nat} {w:World} {f:Fv} {P:Nd→Bool} (D:ln d P f w):∀ x∈[(f,P)],ln d x.2 x.1 w:=by intro x hx;obtain rfl:=List.mem_singleton.1 hx;exact D
theorem fA {d:Nat} {w:World} {f g:Fv} {P Q:Nd→Bool} (I:ln d P f w) (D:ln d Q g w):∀ x∈[(f,P),(g,Q)],ln d x.2 x.1 w:=tS I D
theorem pv {d:Nat} {w:World} {f g h:Fv} {P Q R:Nd→Bool} (J:ln d P f w) (I:ln d Q g w) (D:ln d R h w):∀ x∈[(f,P),(g,Q),(h,R)],ln d x.2 x.1 w:=by
 intro x hx;rcases List.mem_cons.1 hx with rfl | hx
 ·exact J
 ·exact fA I D x hx
theorem Cf {d:Nat} {w:World} {f g h k:Fv} {P Q R S:Nd→Bool} (K:ln d P f w) (J:ln d Q g w) (I:ln d R h w) (D:ln d S k w):∀ x∈[(f,P),(g,Q),(h,R),(k,S)],ln d x.2 x.1 w:=by
 intro x hx;rcases List.mem_cons.1 hx with rfl | hx
 ·exact K
 ·exact pv J I D x hx
theorem Cg (a:Array Value) (w:World):(callFunc 208 a).run Tryz.prog w=.ok (.enter 208 a) w:=by kernel_rfl
theorem AF (a:Array Value) (w:World):(callFunc 207 a).run Tryz.prog w=.ok (.enter 207 a) w:=by kernel_rfl
theorem mQ (a:Array Value) (w:World):(callFunc 156 a).run Tryz.prog w=.ok (.enter 156 a) w:=by kernel_rfl
theorem tT (a:Array Value) (w:World):(callFunc 124 a).run Tryz.prog w=.ok (.enter 124 a) w:=by kernel_rfl
theorem wn (a:Array Value) (w:World):(callFunc 159 a).run Tryz.prog w=.ok (.enter 159 a) w:=by kernel_rfl
theorem rO (a:Array Value) (w:World):(callFunc 160 a).run Tryz.prog w=.ok (.enter 160 a) w:=by kernel_rfl
theorem Gj (g:Nat) (F:bj) (u:nu g F):et (g+1) (f5 F) 208:=by intro w v n q hv hd;have M:=hv;obtain ⟨A,cp,rfl,hC⟩:=hv.toC;have hB:=(ae w (nv n A cp)).1;have b1:=(ae w (nv n A cp)).2;have HV:=hid (M.below hB);have ga:=hid M;have HT:=hid (q.below hB);have HF:=hid u;have HD:=hid hd;clear M hv hC q u hd;have HE:=hid (show f5 F n=bQ 15 [F.typ] (aq eQ n) from rfl);(go_enter Tryz.func208,Tryz.ntmps208);(go_wp2_with fail);refine (bM _ _ n HV.out ⟨209,#[]⟩ eQ (BR _) HD.out.txt).mono ?_;rintro e w1 ⟨v1,rfl,N,K⟩;have h:=am hB K;have O:=hid (bR.below HT.out K);have j:=hid N;clear K N;(go_wp2_with fail);have D:=(Below.refl w1.heap.size w1).alloc (Nat.le_refl _) (.cells #[.func (.func 121) #[] #[]] 37);have I:=am h D;refine (bw g [(⟨121,#[]⟩,F.typ)] 15 v1 (aq eQ n) _ _ 1 rfl (by omega) (j.out.below D) HD.out.named (cG.new _ rfl (ar.new w1 _ _)) (eu (HF.out.typ.so eV _ (bR.below O.out D)))).mono ?_;rintro e w2 ⟨rfl,J⟩;have U:=am I J;have gb:=hid (bR.below (bR.below O.out D) J);clear D I;clear J;(go_wp2_with fail);go_ret;exact ⟨by rw [HE.out];rfl,U⟩
theorem EH (g:Nat) (F:bj) (u:nu g F):et (g+1) (eR F) 207:=by intro w v n q hv hd;have M:=hv;obtain ⟨A,cp,rfl,hC⟩:=hv.toC;have hB:=(ae w (nv n A cp)).1;have b1:=(ae w (nv n A cp)).2;have HV:=hid (M.below hB);have ga:=hid M;have HT:=hid (q.below hB);have HF:=hid u;have HD:=hid hd;clear M hv hC q u hd;have HE:=hid (show eR F n=bQ 9 [F.typ] (aq aw n) from rfl);(go_enter Tryz.func207,Tryz.ntmps207);(go_wp2_with fail);refine (bM _ _ n HV.out ⟨118,#[]⟩ aw (fS _) HD.out.txt).mono ?_;rintro e w1 ⟨v1,rfl,N,K⟩;have h:=am hB K;have O:=hid (bR.below HT.out K);have j:=hid N;clear K N;(go_wp2_with fail);have D:=(Below.refl w1.heap.size w1).alloc (Nat.le_refl _) (.cells #[.func (.func 121) #[] #[]] 37);have I:=am h D;refine (bw g [(⟨121,#[]⟩,F.typ)] 9 v1 (aq aw n) _ _ 1 rfl (by omega) (j.out.below D) HD.out.named (cG.new _ rfl (ar.new w1 _ _)) (eu (HF.out.typ.so eV _ (bR.below O.out D)))).mono ?_;rintro e w2 ⟨rfl,J⟩;have U:=am I J;have gb:=hid (bR.below (bR.below O.out D) J);clear D I;clear J;(go_wp2_with fail);go_ret;exact ⟨by rw [HE.out];rfl,U⟩
theorem yx (g:Nat) (F:bj) (K:nu g F):et (g+1) (aV F) 160:=by
 intro w v n J hv hd;have D:=hv;obtain ⟨A,cp,rfl,N⟩:=hv.toC;have hB:=(ae w (nv n A cp)).1;have b1:=(ae w (nv n A cp)).2;have U:=hid (D.below hB);have O:=hid D;have h:=hid (J.below hB);have u:=hid K;have M:=hid hd;clear D hv N J K hd;have j:=hid (eU g (f5 F) ⟨208,#[]⟩ A cp n.kids _ U.out.kidsV M.out.2 M.out.1.1 (((Gj g F u.out).le fun _=>cq.succ).so Cg _ h.out));(have hE:aV F n=((n.kind==14)&&(n.text.toList.isEmpty&&(decide (0<n.kids.length)&&n.kids.all (f5 F)))):=by unfold aV;rw [af,dU]);rw [hE];clear hE;generalize n.kids.all (f5 F)=q at *;cases h0:(n.kind==14) <;> cases h1:n.text.toList.isEmpty <;> cases h2:decide (0<n.kids.length);all_goals
  (go_enter Tryz.func160,Tryz.ntmps160);(go_wp2_with fail);try
   refine j.out.mono ?_
   rintro e w1 ⟨rfl,I⟩
   replace hB:=am hB I
   clear I
   go_wp2_with fail
  go_ret;exact ⟨rfl,hB⟩
theorem wq (g:Nat) (F:bj) (K:nu g F):et (g+1) (aZ F) 159:=by
 intro w v n J hv hd;have D:=hv;obtain ⟨A,cp,rfl,N⟩:=hv.toC;have hB:=(ae w (nv n A cp)).1;have b1:=(ae w (nv n A cp)).2;have U:=hid (D.below hB);have O:=hid D;have h:=hid (J.below hB);have u:=hid K;have M:=hid hd;clear D hv N J K hd;have j:=hid (eU g (eR F) ⟨207,#[]⟩ A cp n.kids _ U.out.kidsV M.out.2 M.out.1.1 (((EH g F u.out).le fun _=>cq.succ).so AF _ h.out));(have hE:aZ F n=((n.kind==13)&&(n.text.toList.isEmpty&&n.kids.all (eR F))):=by unfold aZ;rw [af,dU]);rw [hE];clear hE;generalize n.kids.all (eR F)=q at *;cases h0:(n.kind==13) <;> cases h1:n.text.toList.isEmpty;all_goals
  (go_enter Tryz.func159,Tryz.ntmps159);(go_wp2_with fail);try
   refine j.out.mono ?_
   rintro e w1 ⟨rfl,I⟩
   replace hB:=am hB I
   clear I
   go_wp2_with fail
  go_ret;exact ⟨rfl,hB⟩
theorem tU (g:Nat) (F:bj) (M:nu g F):et (g+1) (dn F) 124:=by intro w v n K hv hd;have D:=hv;obtain ⟨A,cp,rfl,N⟩:=hv.toC;have hB:=(ae w (nv n A cp)).1;have b1:=(ae w (nv n A cp)).2;have U:=hid (D.below hB);have O:=hid D;have h:=hid (K.below hB);have q:=hid M;have u:=hid hd;clear D hv N K M hd;have j:=hid (yw g F q.out aw ⟨118,#[]⟩ _ n _ h.out U.out u.out (fS _));rw [show dn F n=ep F aw n from rfl];(go_enter Tryz.func124,Tryz.ntmps124);(go_wp2_with fail);refine j.out.mono ?_;rintro e w1 ⟨rfl,I⟩;have J:=am hB I;clear I;(go_wp2_with fail);go_ret;exact ⟨rfl,J⟩
theorem Gk (g:Nat) (F:bj) (hF:nu g F):et (g+1) (dg F) 121:=by
 intro w v n hT hv hd;obtain ⟨nk,nt,nl,np⟩:=n;have O:=hv;obtain ⟨A,cp,rfl,hC⟩:=hv.toC;simp only [Nd.kind_mk,Nd.text_mk,Nd.kids_mk,Nd.pos_mk] at O ⊢;have hB:=(ae w #[.int .i64 nk,.string nt,.slice A nl.length cp,.int .i64 np]).1;have b1:=(ae w #[.int .i64 nk,.string nt,.slice A nl.length cp,.int .i64 np]).2;have HV:=hid (O.below hB);have gh:=hid O;have q:=hid (hT.below hB);have HF:=hid hF;have u:=hid hd;clear O hv hC hT hF hd;by_cases I:nk=10
 ·subst I;have h:=hid (show dg F (Nd.mk 10 nt nl np)=(aw nt&&nl.all F.typ) from rfl);(go_enter Tryz.func121,Tryz.ntmps121);(go_wp2_with fail);have HI:=hid (fun w' (hb:Below (w.alloc (.cells #[.int .i64 10,.string nt,.slice A nl.length cp,.int .i64 np] 24)).heap.size (w.alloc (.cells #[.int .i64 10,.string nt,.slice A nl.length cp,.int .i64 np] 24)) w')=>eU g F.typ ⟨121,#[]⟩ A cp nl _ (HV.out.below hb).kidsV u.out.2 u.out.1.1 (HF.out.typ.so eV _ (q.out.below hb)));refine (nQ _ _).mono ?_;rintro e w1 ⟨rfl,D⟩;have M:=am hB D;have gb:=hid (HI.out _ D);obtain ⟨x0,x1,x2,x3,_,_,_,_⟩:=ac (b1.below D (by simp));clear D HI;cases hq:aw nt with
  | false=>(go_wp2_with fail);go_ret;exact ⟨by rw [h.out,hq];rfl,M⟩
  | true=>(go_wp2_with fail);refine gb.out.mono ?_;rintro e w2 ⟨rfl,j⟩;have ga:=am M j;clear j;(go_wp2_with fail);go_ret;exact ⟨by rw [h.out,hq];rfl,ga⟩
 by_cases J:nk=11
 ·subst J;clear I;have h:=hid (show dg F (Nd.mk 11 nt nl np)=bQ 11 [F.typ] (Nd.mk 11 nt nl np) from rfl);(go_enter Tryz.func121,Tryz.ntmps121);(go_wp2_with fail);have N:=(Below.refl (w.alloc (.cells #[.int .i64 11,.string nt,.slice A nl.length cp,.int .i64 np] 24)).heap.size (w.alloc (.cells #[.int .i64 11,.string nt,.slice A nl.length cp,.int .i64 np] 24))).alloc (Nat.le_refl _) (.cells #[.func (.func 121) #[] #[]] 37);have U:=am hB N;refine (bw g [(⟨121,#[]⟩,F.typ)] 11 _ ((Nd.mk 11 nt nl np)) _ _ 1 rfl (by omega) (HV.out.below N) u.out (cG.new _ rfl (ar.new_at (n:=w.heap.size+1) (by simp) _ _)) (eu (HF.out.typ.so eV _ (bR.below q.out N)))).mono ?_;rintro e w1 ⟨rfl,D⟩;have M:=am U D;have gi:=hid (bR.below (bR.below q.out N) D);clear N U;clear D;(go_wp2_with fail);go_ret;exact ⟨by rw [h.out];rfl,M⟩
 by_cases K:nk=12
 ·subst K;clear I J;have h:=hid (show dg F (Nd.mk 12 nt nl np)=ep F dL (Nd.mk 12 nt nl np) from rfl);(go_enter Tryz.func121,Tryz.ntmps121);(go_wp2_with fail);refine (yw g F HF.out dL ⟨163,#[]⟩ _ (Nd.mk 12 nt nl np) _ q.out HV.out u.out (Ai _)).mono ?_;rintro e w1 ⟨rfl,D⟩;have M:=am hB D;clear D;(go_wp2_with fail);go_ret;exact ⟨by rw [h.out];rfl,M⟩
 have h:=hid (show dg F (Nd.mk nk nt nl np)=false by unfold dg;simp only [Nd.kind_mk,I,J,K,if_false]);(have gg:(nk==10)=false:=by simpa using I);(have ge:(nk==11)=false:=by simpa using J);(have gd:(nk==12)=false:=by simpa using K);clear I J K;(go_enter Tryz.func121,Tryz.ntmps121);(go_wp2_with fail);go_ret;exact ⟨by rw [h.out];rfl,hB⟩
theorem ws (a:Array Value) (w:World):(callFunc 203 a).run Tryz.prog w=.ok (.enter 203 a) w:=by kernel_rfl
theorem Ch (g:Nat) (F:bj) (K:nu g F):et g (ey F) 203:=by
 intro w v n J hv hd;have I:=hv;obtain ⟨A,cp,rfl,N⟩:=hv.toC;have hB:=(ae w #[.int .i64 n.kind,.string n.text,.slice A n.kids.length cp,.int .i64 n.pos]).1;have O:=hid (K.typ _ _ n (J.below hB) (I.below hB) hd);(have hE:ey F n=(n.kind==10&&F.typ n):=by unfold ey;rw [dU]);rw [hE];clear hE I hv N J K hd;generalize F.typ n=q at *;generalize n.kind=k at *;cases M:(k==10);all_goals
  (go_enter Tryz.func203,Tryz.ntmps203);(go_wp2_with fail);try
   rw [beq_iff_eq] at M
   subst M
   refine O.out.mono ?_
   rintro e w1 ⟨rfl,D⟩
   replace hB:=am hB D
   clear D
   go_wp2_with fail
  go_ret;exact ⟨rfl,hB⟩
theorem pw {w:World} {g b:Nat} {t u:TypeId} {a0 a1 a2 a3 x:Value} (h:ar w g t #[a0,a1,a2,a3]) (h':ar w b u #[x]) :
  w.cell? ⟨g,0,none⟩=some a0∧w.cell? ⟨g,1,none⟩=some a1∧w.cell? ⟨g,2,none⟩=some a2∧w.cell? ⟨g,3,none⟩=some a3∧w.cell? ⟨b,0,none⟩=some x:=by obtain ⟨K,J,I,D⟩:=fT h;exact ⟨K,J,I,D,bc h'⟩
theorem AG (g:Nat) (F:bj) (hF:nu g F) (b:Nat) (w0:World) (hT:bR w0) (hb:ar w0 b 37 #[.func (.func 203) #[] #[]]) :
  ln g (eS F) ⟨205,#[.pointer (some ⟨b,0,none⟩)]⟩ w0:=by
 refine ⟨fun a w=>by kernel_rfl,fun w v n hw hv hd=>?_⟩;cases g with
 | zero=>exact hd.elim
 | succ d=>
  have O:=hv;obtain ⟨A,cp,rfl,hC⟩:=hv.toC;have hB:=(ae w #[.int .i64 n.kind,.string n.text,.slice A n.kids.length cp,.int .i64 n.pos]).1;have K:=hw.alloc hw.size (.cells #[.int .i64 n.kind,.string n.text,.slice A n.kids.length cp,.int .i64 n.pos] 24);have c0:=(ae w #[.int .i64 n.kind,.string n.text,.slice A n.kids.length cp,.int .i64 n.pos]).2;have cb:=hb.bl K;have HV:=hid (O.below hB);have HT:=hid (hT.below K);have HF:=hid hF.pred;have HD:=hid hd;have gk:=hb.lt;have gj:=hw.size;show Calls _ _ _ w fun e w'=>e=.returned (.bool (bQ 7 [bI (ey F) (aV F)] (aq aw n)))∧_;clear O hv hC hb hT hF hd K;(go_enter Tryz.func205,Tryz.ntmps205);(go_wp2_with fail);generalize w.alloc (.cells #[.int .i64 n.kind,.string n.text,.slice A n.kids.length cp,.int .i64 n.pos] 24)=W at *;have M:Below W.heap.size W W.drew:=(Below.refl _ _).drew;have gd:=c0.lt;have gb:=cb.lt;have gg:=am hB M;have gh:=hid (HV.out.below M);have gi:=hid (HT.out.below M);have C0:=hid c0.drew;have CB:=hid cb.drew;clear c0 cb HV HT hB;go_region_held3 (fun w'=>w'.cell? ⟨w.heap.size,0,none⟩=some (.int .i64 n.kind)∧w'.cell? ⟨w.heap.size,1,none⟩=some (.string n.text)∧w'.cell? ⟨w.heap.size,2,none⟩=some (.slice A n.kids.length cp)∧w'.cell? ⟨w.heap.size,3,none⟩=some (.int .i64 n.pos)∧w'.cell? ⟨b,0,none⟩=some (.func (.func 203) #[] #[]))
   (first | with_reducible exact pw q4 r4 | with_reducible exact pw (q.alloc _) (j.alloc _) | with_reducible exact pw q j | with_reducible exact pw q2 r2 | with_reducible exact pw C0.out CB.out)
   (first
    | (go_at_call 155;refine (bM _ _ n gh.out ⟨118,#[]⟩ aw (fS _) HD.out.txt).mono ?_;rintro e w2 ⟨v1,rfl,u,I⟩;have q2:=C0.out.below I gd;have r2:=CB.out.below I gb;have U:=hid (gi.out.below I))
    | (go_at_call 158;refine (d8 d (ey F) (aV F) ⟨203,#[]⟩ ⟨160,#[]⟩ _ ((Ch d F HF.out).so ws _ U.out) (((yx d F HF.out).le fun _=>cq.succ).so rO _ U.out)).mono ?_;rintro e w3 ⟨h,rfl,ga,D⟩;have q:=q2.bl D;have j:=r2.bl D)
    | (go_at_call 154;refine (bw d [(h,bI (ey F) (aV F))] 7 v1 (aq aw n) _ _ 1 rfl (by omega) ((u.below D).below ((Below.refl _ w3).alloc (Nat.le_refl _) _)) HD.out.named (cG.new _ rfl (ar.new w3 _ _)) (eu (ga.below ((Below.refl _ w3).alloc (Nat.le_refl _) _)))).mono ?_;rintro e w4 ⟨rfl,N⟩;have q4:=(q.alloc _).below N (q.alloc _).lt;have r4:=(j.alloc _).below N (j.alloc _).lt))
  (all_goals go_wp2_with fail);(all_goals go_ret);all_goals have ge:=am gg I;have J:=am ge D;exact ⟨rfl,(J.alloc J.size _).trans (N.mono (J.alloc J.size _).size)⟩
theorem mR (g:Nat) (F:bj) (M:nu g F):et (g+1) (aR F) 156:=by intro w v n K hv hd;have I:=hv;obtain ⟨A,cp,rfl,O⟩:=hv.toC;have hB:=((Below.refl w.heap.size w).alloc (Nat.le_refl _) (.cells #[.int .i64 n.kind,.string n.text,.slice A n.kids.length cp,.int .i64 n.pos] 24)).alloc (by simp) (.cells #[.func (.func 203) #[] #[]] 37);have N:ar ((w.alloc (.cells #[.int .i64 n.kind,.string n.text,.slice A n.kids.length cp,.int .i64 n.pos] 24)).alloc (.cells #[.func (.func 203) #[] #[]] 37)) (w.heap.size+1) 37 #[.func (.func 203) #[] #[]]:=ar.new_at (by simp) _ _;have U:=hid (tn g (eS F) ⟨205,#[.pointer (some ⟨w.heap.size+1,0,none⟩)]⟩ _ n _ (I.below hB) hd (AG g F M _ _ (K.below hB) N));show Calls _ _ _ w fun e w'=>e=.returned (.bool (eP (eS F) n))∧_;clear I hv O N K M hd;(go_enter Tryz.func156,Tryz.ntmps156);(go_wp2_with fail);refine U.out.mono ?_;rintro e w1 ⟨rfl,D⟩;have J:=am hB D;clear D;(go_wp2_with fail);go_ret;exact ⟨rfl,J⟩
theorem EI {k:Int} {l:List (Nd→Bool)} {so:ByteArray→Bool} {n:Nd} (I:l.length≠0) (h:bQ k l (aq so n)=true):n.kids.length=l.length:=by
 unfold bQ at h;simp only [Bool.and_eq_true] at h;have D:=h.2.2;rcases Decidable.em (l.length=(aq so n).kids.length) with e | e
 ·unfold aq at e;split at e
  ·exact e.symm
  ·exact absurd e I
 ·rw [mN _ _ e] at D;cases D
theorem yy (g:Nat) (F:bj) (hF:nu g F):et (g+1) (fd F) 161:=by
 intro w v n hT hv hd;have gb:=hv;obtain ⟨A,cp,rfl,hC⟩:=hv.toC;have hB:=(ae w (nv n A cp)).1;have b1:=(ae w (nv n A cp)).2;have HV:=hid (gb.below hB);have hp:=hid gb;have HT:=hid (hT.below hB);have HF:=hid hF;have HD:=hid hd;clear gb hv hC hT hF hd;have gz:=Below.refl (w.alloc (.cells (nv n A cp) 24)).heap.size (w.alloc (.cells (nv n A cp) 24));have hE:fd F n=(bQ 5 [bI ag F.typ,bI ag F.expr] (aq aw n)&&(!(ag (n.kids.getD 0 eG)) || !(ag (n.kids.getD 1 eG)))):=rfl;rw [hE];clear hE;(go_enter Tryz.func161,Tryz.ntmps161);(go_wp2_with fail);refine (bM _ _ n HV.out ⟨118,#[]⟩ aw (fS _) HD.out.txt).mono ?_;rintro e w1 ⟨v1,rfl,ge,h⟩;have g2:=am hB h;have gt:=hid (bR.below HT.out h);have gy:=am gz h;have g3:=hid ge;clear h ge;(go_wp2_with fail);refine (d8 g ag F.typ ⟨174,#[]⟩ ⟨121,#[]⟩ _ (fz g _) (HF.out.typ.so eV _ gt.out)).mono ?_;rintro e w2 ⟨h1,rfl,q,K⟩;have g1:=am g2 K;have gs:=hid (bR.below gt.out K);have gx:=am gy K;have gv:=hid (g3.out.below K);have gr:=hid q;clear K q;(go_wp2_with fail);refine (d8 g ag F.expr ⟨174,#[]⟩ ⟨122,#[]⟩ _ (fz g _) (HF.out.expr.so cu _ gs.out)).mono ?_;rintro e w3 ⟨h2,rfl,j,J⟩;have g0:=am g1 J;have g4:=hid (bR.below gs.out J);have gd:=hid (gr.out.below J);have gw:=am gx J;have gu:=hid (gv.out.below J);have gq:=hid j;clear J j;(go_wp2_with fail);have I:=(Below.refl w3.heap.size w3).alloc (Nat.le_refl _) (.cells #[.func (.func h1.k) #[] h1.cap,.func (.func h2.k) #[] h2.cap] 37);have ga:=am g0 I;refine (bw g [(h1,(bI ag F.typ)),(h2,(bI ag F.expr))] 5 v1 (aq aw n) _ _ 2 rfl (by omega) (gu.out.below I) HD.out.named (cG.new _ rfl (ar.new w3 _ _)) (fA (gd.out.below I) (gq.out.below I))).mono ?_;rintro e w4 ⟨rfl,U⟩;have gn:=am ga U;have hr:=hid (bR.below (bR.below g4.out I) U);have gl:=am gw I;have N:=am gl U;clear I ga;clear U;cases hq:bQ 5 [bI ag F.typ,bI ag F.expr] (aq aw n) with
 | false=>(go_wp2_with fail);go_ret;exact ⟨by rw [hq];rfl,gn⟩
 | true=>
  have HQ:=hid hq;have hl:=EI (by simp) hq;have HL:=hid hl;(have gk:0<n.kids.length:=by simp at hl;omega);(have gj:1<n.kids.length:=by simp at hl;omega);have M:=b1.below N (by simp);obtain ⟨x0,x1,x2,x3,_,_,_,_⟩:=ac M;obtain ⟨-,b,off,A1,ho,rfl,O,k0,k1,k2,k3,gi⟩:=fe.at_ (ai.kidsV (HV.out.below N)) 0 gk;obtain ⟨_,b',off',A2,hn,e2,g8,j0,j1,j2,j3,gh⟩:=fe.at_ (ai.kidsV (HV.out.below N)) 1 gj;injection e2 with e2;injection e2 with e2 e3;subst e2 e3;have K0:=hid (show n.kids.getD 0 eG=n.kids[0] by simp [gk]);have K1:=hid (show n.kids.getD 1 eG=n.kids[1] by simp [gj]);simp only [Nat.zero_mul,Nat.add_zero,Nat.one_mul] at k0 k1 k2 k3 j0 j1 j2 j3;generalize n.kids[0]=y0 at *;generalize n.kids[1]=y1 at *;have g7:=hid (nO _ _ y0 gi);have g5:=hid gh;have hm:=N.size;(have hk:(0:Int)<(n.kids.length:Int):=by omega);(have hj:(1:Int)<(n.kids.length:Int):=by omega);clear gi gh hl hq;(go_wp2_with fail);refine g7.out.mono ?_;rintro e w9 ⟨rfl,D⟩;have gm:=am gn D;cases gg:ag y0 with
  | false=>clear D;(go_wp2_with fail);go_ret;exact ⟨by rw [HQ.out,K0.out,K1.out,gg];rfl,gm⟩
  | true=>obtain ⟨he,hc,ha,g9,_,_,_,_⟩:=ac (M.bl D);have hi:=(D.cell (p:=⟨b,off+4,none⟩) O).trans j0;have hh:=(D.cell (p:=⟨b,off+4+1,none⟩) O).trans j1;have hg:=(D.cell (p:=⟨b,off+4+2,none⟩) O).trans j2;have hf:=(D.cell (p:=⟨b,off+4+3,none⟩) O).trans j3;have g6:=hid (nO _ _ y1 (g5.out.below D));clear D x0 x1 x2 x3 k0 k1 k2 k3 j0 j1 j2 j3 M;(go_wp2_with fail);refine g6.out.mono ?_;rintro e w10 ⟨rfl,u⟩;have gp:=am gm u;clear u;(go_wp2_with fail);go_ret;exact ⟨by rw [HQ.out,K0.out,K1.out,gg];rfl,gp⟩
theorem Gl (g:Nat) (F:bj) (hF:nu g F):et (g+1) (a8 F) 120:=by
 intro w v n hT hv hd;obtain ⟨nk,nt,nl,np⟩:=n;have gd:=hv;obtain ⟨A,cp,rfl,hC⟩:=hv.toC;simp only [Nd.kind_mk,Nd.text_mk,Nd.kids_mk,Nd.pos_mk] at gd ⊢;have hB:=(ae w #[.int .i64 nk,.string nt,.slice A nl.length cp,.int .i64 np]).1;have b1:=(ae w #[.int .i64 nk,.string nt,.slice A nl.length cp,.int .i64 np]).2;have HV:=hid (gd.below hB);have gt:=hid gd;have HT:=hid (hT.below hB);have HF:=hid hF;have HD:=hid hd;clear gd hv hC hT hF hd;by_cases h:nk=2
 ·subst h;have HE:=hid (show a8 F (Nd.mk 2 nt nl np)=bQ 2 [aR F,dn F,F.block] (aq aw (Nd.mk 2 nt nl np)) from rfl);(go_enter Tryz.func120,Tryz.ntmps120);(go_wp2_with fail);refine (bM _ _ (Nd.mk 2 nt nl np) HV.out ⟨118,#[]⟩ aw (fS _) HD.out.txt).mono ?_;rintro e w1 ⟨v1,rfl,M,I⟩;have O:=am hB I;have K:=hid (bR.below HT.out I);have ga:=hid M;clear I M;(go_wp2_with fail);have D:=(Below.refl w1.heap.size w1).alloc (Nat.le_refl _) (.cells #[.func (.func 156) #[] #[],.func (.func 124) #[] #[],.func (.func 157) #[] #[]] 37);have N:=am O D;refine (bw g [(⟨156,#[]⟩,(aR F)),(⟨124,#[]⟩,(dn F)),(⟨157,#[]⟩,F.block)] 2 v1 (aq aw (Nd.mk 2 nt nl np)) _ _ 3 rfl (by omega) (ga.out.below D) HD.out.named (cG.new _ rfl (ar.new w1 _ _)) (pv (((mR g F HF.out).le fun _=>cq.succ).so mQ _ (bR.below K.out D)) (((tU g F HF.out).le fun _=>cq.succ).so tT _ (bR.below K.out D)) (HF.out.block.so fV _ (bR.below K.out D)))).mono ?_;rintro e w2 ⟨rfl,J⟩;have u:=am N J;have ge:=hid (bR.below (bR.below K.out D) J);clear D N;clear J;(go_wp2_with fail);go_ret;exact ⟨by rw [HE.out];rfl,u⟩
 by_cases j:nk=3
 ·subst j;clear h;have HE:=hid (show a8 F (Nd.mk 3 nt nl np)=bQ 3 [aR F,bI (bI F.typ (aZ F)) (aV F)] (aq aw (Nd.mk 3 nt nl np)) from rfl);(go_enter Tryz.func120,Tryz.ntmps120);(go_wp2_with fail);refine (bM _ _ (Nd.mk 3 nt nl np) HV.out ⟨118,#[]⟩ aw (fS _) HD.out.txt).mono ?_;rintro e w1 ⟨v1,rfl,M,I⟩;have O:=am hB I;have K:=hid (bR.below HT.out I);have ga:=hid M;clear I M;(go_wp2_with fail);refine (d8 g F.typ (aZ F) ⟨121,#[]⟩ ⟨159,#[]⟩ _ (HF.out.typ.so eV _ K.out) (((wq g F HF.out).le fun _=>cq.succ).so wn _ K.out)).mono ?_;rintro e w2 ⟨h1,rfl,gh,J⟩;have u:=am O J;have ge:=hid (bR.below K.out J);have gp:=hid (ga.out.below J);have gj:=hid gh;clear J gh;(go_wp2_with fail);refine (d8 g (bI F.typ (aZ F)) (aV F) h1 ⟨160,#[]⟩ _ (gj.out) (((yx g F HF.out).le fun _=>cq.succ).so rO _ ge.out)).mono ?_;rintro e w3 ⟨h2,rfl,gg,q⟩;have gr:=am u q;have gm:=hid (bR.below ge.out q);have gs:=hid (gj.out.below q);have gn:=hid (gp.out.below q);have gl:=hid gg;clear q gg;(go_wp2_with fail);have U:=(Below.refl w3.heap.size w3).alloc (Nat.le_refl _) (.cells #[.func (.func 156) #[] #[],.func (.func h2.k) #[] h2.cap] 37);have gi:=am gr U;refine (bw g [(⟨156,#[]⟩,(aR F)),(h2,(bI (bI F.typ (aZ F)) (aV F)))] 3 v1 (aq aw (Nd.mk 3 nt nl np)) _ _ 2 rfl (by omega) (gn.out.below U) HD.out.named (cG.new _ rfl (ar.new w3 _ _)) (fA (((mR g F HF.out).le fun _=>cq.succ).so mQ _ (bR.below gm.out U)) (gl.out.below U))).mono ?_;rintro e w4 ⟨rfl,gk⟩;have gq:=am gi gk;have gu:=hid (bR.below (bR.below gm.out U) gk);clear U gi;clear gk;(go_wp2_with fail);go_ret;exact ⟨by rw [HE.out];rfl,gq⟩
 by_cases gb:nk=4
 ·subst gb;clear h j;have HE:=hid (show a8 F (Nd.mk 4 nt nl np)=bQ 4 [aR F,F.typ] (aq aw (Nd.mk 4 nt nl np)) from rfl);(go_enter Tryz.func120,Tryz.ntmps120);(go_wp2_with fail);refine (bM _ _ (Nd.mk 4 nt nl np) HV.out ⟨118,#[]⟩ aw (fS _) HD.out.txt).mono ?_;rintro e w1 ⟨v1,rfl,M,I⟩;have O:=am hB I;have K:=hid (bR.below HT.out I);have ga:=hid M;clear I M;(go_wp2_with fail);have D:=(Below.refl w1.heap.size w1).alloc (Nat.le_refl _) (.cells #[.func (.func 156) #[] #[],.func (.func 121) #[] #[]] 37);have N:=am O D;refine (bw g [(⟨156,#[]⟩,(aR F)),(⟨121,#[]⟩,F.typ)] 4 v1 (aq aw (Nd.mk 4 nt nl np)) _ _ 2 rfl (by omega) (ga.out.below D) HD.out.named (cG.new _ rfl (ar.new w1 _ _)) (fA (((mR g F HF.out).le fun _=>cq.succ).so mQ _ (bR.below K.out D)) (HF.out.typ.so eV _ (bR.below K.out D)))).mono ?_;rintro e w2 ⟨rfl,J⟩;have u:=am N J;have ge:=hid (bR.below (bR.below K.out D) J);clear D N;clear J;(go_wp2_with fail);go_ret;exact ⟨by rw [HE.out];rfl,u⟩
 have HE:=hid (show a8 F (Nd.mk nk nt nl np)=fd F (Nd.mk nk nt nl np) by unfold a8;simp only [Nd.kind_mk,h,j,gb,if_false]);(have t2:(nk==2)=false:=by simpa using h);(have t3:(nk==3)=false:=by simpa using j);(have t4:(nk==4)=false:=by simpa using gb);clear h j gb;(go_enter Tryz.func120,Tryz.ntmps120);(go_wp2_with fail);refine (yy g F HF.out _ _ (Nd.mk nk nt nl np) HT.out HV.out HD.out).mono ?_;rintro e w1 ⟨rfl,I⟩;have O:=am hB I;clear I;(go_wp2_with fail);go_ret;exact ⟨by rw [HE.out];rfl,O⟩
theorem Gm:Tryz.prog.underlying 22=some (.slice (Tryz.prog.elem 22)):=by kernel_rfl
theorem EJ:Tryz.prog.elem 22=24:=by kernel_rfl
theorem Gn (w:World):(sizeOf (Tryz.prog.elem 22)).run Tryz.prog w=.ok 4 w:=by rw [EJ];exact Tryz.sizeOf24 w
theorem dk.tail {X:Nat→Prop} {w:World} {A:Option Addr} {n c:Nat} {xs:List Value} (h:dk X w 4 A n xs) (J:1≤n) (K:n≤c):dk X w 4 (if c=1 then A else A.map (·.add 4)) (n-1) (xs.drop 4):=by
 refine ⟨by rw [List.length_drop,h.1];omega,fun I=>?_⟩;obtain ⟨b,off,rfl,hb,D⟩:=h.2 (by omega);rw [if_neg (by omega)];refine ⟨b,off+4,by simp [Addr.add],hb,fun j u hu=>?_⟩;rw [List.getElem?_drop] at hu;have:=D _ u hu
 rwa [←Nat.add_assoc] at this
theorem px (A:Option Addr) (q c:Nat) (K:1≤q) (D:q≤c):∃ A',(∀ W:World,(Instr.slice 22 (.slice A q c) (some (.int .i64 1)) none none).run Tryz.prog W=.ok (.slice A' (q-1) (c-1)) W) ∧
  ∀ (X:Nat→Prop) (w:World) (l:List Nd),cy X w (.slice A q c) l→cy X w (.slice A' (q-1) (c-1)) (l.drop 1):=by
 refine ⟨if c=1 then A else A.map (·.add 4),fun W=>?_,fun X w l h=>?_⟩
 ·rw [run_slice_l (P:=Tryz.prog) W 22 A q c Gm .i64 1 (by omega) (by omega),Gn];simp [Result.andThen,sliced]
 ·obtain ⟨N,c1,xs,e,M,J,I⟩:=h;injection e with e1 e2 e3;subst e1 e2 e3;refine ⟨_,c-1,xs.drop 4,by rw [List.length_drop],by rw [List.length_drop];omega,?_,?_⟩
  ·rw [List.length_drop];exact J.tail K D
  ·have:=(I.split 1).2;simpa using this
theorem Ci (a:Array Value) (w:World):(callFunc 168 a).run Tryz.prog w=.ok (.enter 168 a) w:=by kernel_rfl
theorem yz (a b:Int):(a != b)=decide (a≠b):=by rw [Bool.eq_iff_iff];simp
theorem Gp (g:Nat) (F:bj) (N:nu g F):et g (cN F) 168:=by
 intro w v n M hv hd;have I:=hv;obtain ⟨A,cp,rfl,hC⟩:=hv.toC;have hB:=(ae w (nv n A cp)).1;have j:=(ae w (nv n A cp)).2;have u:=hid (N.expr _ _ n (M.below hB) (I.below hB) hd);have q:=hid (fun w' (hb:Below (w.alloc (.cells (nv n A cp) 24)).heap.size (w.alloc (.cells (nv n A cp) 24)) w')=>N.typ _ _ n ((M.below hB).below hb) ((I.below hB).below hb) hd);(have hE:cN F n=(F.expr n||((n.kind != 10)&&F.typ n)):=by unfold cN;rw [yz]);rw [hE];clear hE I hv hC M N hd;generalize hq1:F.expr n=q1 at *;generalize F.typ n=q2 at *;clear hq1;(go_enter Tryz.func168,Tryz.ntmps168);(go_wp2_with fail);refine u.out.mono ?_;rintro e w1 ⟨rfl,D⟩;have J:=am hB D;cases q1 with
 | true=>clear D;(go_wp2_with fail);go_ret;exact ⟨rfl,J⟩
 | false=>
  obtain ⟨x0,x1,x2,x3,_,_,_,_⟩:=ac (j.below D (by simp));have U:=hid (q.out w1 D);clear D q u j;cases h:(n.kind != 10) with
  | false=>(go_wp2_with fail);go_ret;exact ⟨by rw [h];rfl,J⟩
  | true=>(go_wp2_with fail);refine U.out.mono ?_;rintro e w2 ⟨rfl,K⟩;have O:=am J K;clear K;(go_wp2_with fail);go_ret;exact ⟨by rw [h];rfl,O⟩
end
end Go.Proofs.YtiebcdeafofgdaaGreatDoor
