/-
  Parts of the proof: Sscan Scan2 Ldig. By an AI agent.
-/
import Derived.Test.YtiebcdeafofgdaaGreatDoorL11
import Derived.Test.YtiebcdeafofgdaaGreatDoorL01
import Derived.Test.YtiebcdeafofgdaaGreatDoorL00
import Derived.Deep.RegionLaw
set_option maxRecDepth 100000
set_option maxHeartbeats 8000000
namespace Go.Proofs.YtiebcdeafofgdaaGreatDoor
section
open Go.RowKit Go.Lib Go.Proofs
attribute [local go_sem ↓] Go.wp_at_zero Go.wp_at_succ
theorem Av (p q r:Addr) (w:World) :
  CallsD Tryz.prog 72 #[.pointer (some p),.pointer (some q),.pointer (some r)] .returning w fun e u' w'=>e=.returned (.tuple #[])∧u'=.returning∧w'=w:=by
 refine callsD_of_wpS Tryz.func72 rfl fun c₀ cs D=>?_;apply wpS_seq;apply wpS_region;simp [wpOpsS,go_sem,recoverD,D,Tryz.ntmps72,Exit.thenS];apply wpS_seq;apply wpS_region;simp [wpOpsS,go_sem,Exit.thenS];refine wpS_cond (t:=false) (by simp [Act.eval,Array.replicate]) ?_;simp only [Bool.false_eq_true,if_false];refine wpS_of_wp (wp_skip ?_);cases c₀
 simp_all [bodyPostS,results,Tryz.results72]
def FV (Q:Exit→Act→World→Prop):Exit→Act→World→Prop:=fun x a w=>match x with
 | .normal=>Q .normal a w
 | _=>False
theorem B2 {P:Program} {c:Code} {Q:Exit→Act→World→Prop} {a:Act} {w:World} (h:c.wp P (FV Q) a w):c.wp P Q a w:=
 Code.wp_mono (fun e a w h=>by
  cases e with
  | normal=>exact h
  | _=>exact h.elim) h
def lR (s0:ByteArray) (w:World) (r:nj) (e:Ending) (w':World):Prop:=
 match r with
 | .toks L=>∃ X i,e=.returned (.tuple #[.pointer (some ⟨X,0,none⟩),.int .i64 0,.int .i64 0])∧eo w' X s0 i L∧w.heap.size≤X∧Below w.heap.size w w'
 | .err p n=>e=.returned (.tuple #[.pointer none,.int .i64 p,.int .i64 n])∧Below w.heap.size w w'
theorem B3 (A:Option Addr) (c:Nat) (s:ByteArray) (w:World) (hv:du w A c s) (hT:iD w) (hm:s.size≤1000000000) :
  Calls Tryz.prog 43 #[.slice A s.size c] w (lR s w (di s)):=by
 have h8:∀ (fn:Fn) (first cap:Array Value) (w:World),(Instr.makeFunc fn first cap).run Tryz.prog w=.ok (.func fn first cap) w:=fun _ _ _ _=>rfl;have gr:Below w.heap.size w (((w.alloc (.cells #[.pointer none] 63)).alloc (.cells #[.int .i64 0] 3)).alloc (.cells #[.int .i64 0] 29)):=bel;have gq:ar (((w.alloc (.cells #[.pointer none] 63)).alloc (.cells #[.int .i64 0] 3)).alloc (.cells #[.int .i64 0] 29)) w.heap.size 63 #[.pointer none]:=((ar.new w _ _).alloc _).alloc _;have gp:ar (((w.alloc (.cells #[.pointer none] 63)).alloc (.cells #[.int .i64 0] 3)).alloc (.cells #[.int .i64 0] 29)) (w.heap.size+1) 3 #[.int .i64 0]:=(ar.new_at (by simp) _ _).alloc _;have gm:ar (((w.alloc (.cells #[.pointer none] 63)).alloc (.cells #[.int .i64 0] 3)).alloc (.cells #[.int .i64 0] 29)) (w.heap.size+2) 29 #[.int .i64 0]:=ar.new_at (by simp) _ _;have HW:=hid (fun w' (gb:Below w.heap.size w w')=>(hv.below gb).wrong (hT.below gb) hm);have hn:=hid (fun w' (gb:Below w.heap.size w w')=>(hv.below gb).conv);have HT:=hid hT;generalize hO:di s=O at *;have HO:=hid hO;clear hT hv hO;by_cases I:65536<s.size
 ·(have hk:decide ((65536:Int)<(s.size:Int))=true:=by rw [decide_eq_true_iff];omega);have hg:=hid (show O=.err 65536 12 by rw [←HO.out,di,if_pos I]);have x0:=bc gq;have y0:=bc gp;have z0:=bc gm;have xf:=gq.frozen 0;have yf:=gp.frozen 0;have zf:=gm.frozen 0;clear I;(go_enter_defers Tryz.func43,Tryz.ntmps43);(go_wp2_with fail);rw [hg.out];clear x0 y0 z0 xf yf zf;simp [bodyPostD,Leaves,results,Tryz.results43,go_sem,lR];exact bel
 (have hj:s.size≤65536:=by omega);(have hk:decide ((65536:Int)<(s.size:Int))=false:=by rw [decide_eq_false_iff_not];omega);cases yk:io s with
 | some p=>have hg:=hid (show O=.err (p:Int) 2 by rw [←HO.out,di,if_neg I,yk]);rw [yk] at HW;(have je:decide ((0:Int)≤(p:Int))=true:=by rw [decide_eq_true_iff];omega);clear HO yk I;(go_enter_defers Tryz.func43,Tryz.ntmps43);(go_wp2_with fail);refine (HW.out _ gr).mono ?_;rintro e J ⟨rfl,K⟩;unfold sq;(have u:(((w.alloc (.cells #[.pointer none] 63)).alloc (.cells #[.int .i64 0] 3)).alloc (.cells #[.int .i64 0] 29)).heap.size=w.heap.size+3:=by simp);have ge:=gq.below K (by rw [u];omega);have gn:=gp.below K (by rw [u];omega);have gl:=gm.below K (by rw [u];omega);have gz:=am gr K;have x0:=bc ge;have y0:=bc gn;have z0:=bc gl;have xf:=ge.frozen 0;have yf:=gn.frozen 0;have zf:=gl.frozen 0;clear gq gp gm K gr u;simp only;(go_wp2_with fail);have M:ar (((J.setCell ⟨w.heap.size,0,none⟩ (.pointer none)).setCell ⟨w.heap.size+1,0,none⟩ (.int .i64 (p:Int))).setCell ⟨w.heap.size+1+1,0,none⟩ (.int .i64 2)) w.heap.size 63 #[.pointer none]:=((show ar (J.setCell ⟨w.heap.size,0,none⟩ (.pointer none)) w.heap.size 63 #[.pointer none] by simpa using ge.set_ 0 (.pointer none)).far (p:=⟨w.heap.size+1,0,none⟩) (by show w.heap.size≠w.heap.size+1;omega) (.int .i64 (p:Int))).far (p:=⟨w.heap.size+1+1,0,none⟩) (by show w.heap.size≠w.heap.size+1+1;omega) (.int .i64 2);have U:ar (((J.setCell ⟨w.heap.size,0,none⟩ (.pointer none)).setCell ⟨w.heap.size+1,0,none⟩ (.int .i64 (p:Int))).setCell ⟨w.heap.size+1+1,0,none⟩ (.int .i64 2)) (w.heap.size+1) 3 #[.int .i64 (p:Int)]:=(show ar ((J.setCell ⟨w.heap.size,0,none⟩ (.pointer none)).setCell ⟨w.heap.size+1,0,none⟩ (.int .i64 (p:Int))) (w.heap.size+1) 3 #[.int .i64 (p:Int)] by simpa using (gn.far (p:=⟨w.heap.size,0,none⟩) (by show w.heap.size+1≠w.heap.size;omega) (.pointer none)).set_ 0 (.int .i64 (p:Int))).far (p:=⟨w.heap.size+1+1,0,none⟩) (by show w.heap.size+1≠w.heap.size+1+1;omega) (.int .i64 2);(have N:ar (((J.setCell ⟨w.heap.size,0,none⟩ (.pointer none)).setCell ⟨w.heap.size+1,0,none⟩ (.int .i64 (p:Int))).setCell ⟨w.heap.size+1+1,0,none⟩ (.int .i64 2)) (w.heap.size+2) 29 #[.int .i64 2]:=by simpa using ((gl.far (p:=⟨w.heap.size,0,none⟩) (by show w.heap.size+2≠w.heap.size;omega) (.pointer none)).far (p:=⟨w.heap.size+1,0,none⟩) (by show w.heap.size+2≠w.heap.size+1;omega) (.int .i64 (p:Int))).set_ 0 (.int .i64 2));have q:Below w.heap.size w (((J.setCell ⟨w.heap.size,0,none⟩ (.pointer none)).setCell ⟨w.heap.size+1,0,none⟩ (.int .i64 (p:Int))).setCell ⟨w.heap.size+1+1,0,none⟩ (.int .i64 2)):=((gz.setCell (p:=⟨w.heap.size,0,none⟩) (Nat.le_refl _) _).setCell (p:=⟨w.heap.size+1,0,none⟩) (Nat.le_succ _) _).setCell (p:=⟨w.heap.size+1+1,0,none⟩) (show w.heap.size≤w.heap.size+1+1 by omega) _;generalize ((J.setCell ⟨w.heap.size,0,none⟩ (.pointer none)).setCell ⟨w.heap.size+1,0,none⟩ (.int .i64 (p:Int))).setCell ⟨w.heap.size+1+1,0,none⟩ (.int .i64 2)=w2 at *;clear x0 y0 z0 xf yf zf;have z0:=bc M;have z1:=bc U;have z2:w2.cell? ⟨w.heap.size+1+1,0,none⟩=some (.int .i64 2):=bc N;rw [hg.out];simp [bodyPostD,Leaves,results,Tryz.results43,go_sem,z0,z1,z2,lR];exact q
 | none=>
 have HS:=hid (show tC (dw s (s.size+1) 0 [])=O by rw [←HO.out,di,if_neg I,yk]);rw [yk] at HW;clear HO yk I;(go_enter_defers Tryz.func43,Tryz.ntmps43);(go_wp2_with fail);refine (HW.out _ gr).mono ?_;rintro e J ⟨rfl,K⟩;unfold sq;(have u:(((w.alloc (.cells #[.pointer none] 63)).alloc (.cells #[.int .i64 0] 3)).alloc (.cells #[.int .i64 0] 29)).heap.size=w.heap.size+3:=by simp);have ge:=gq.below K (by rw [u];omega);have gn:=gp.below K (by rw [u];omega);have gl:=gm.below K (by rw [u];omega);have ho:=K.size;rw [u] at ho;have gz:=am gr K;clear gq gp gm K gr u;have hq:=hn.out _ gz;have x0:=bc (ge.alloc (.cells #[.string s,.int .i64 0,.slice none 0 0,.slice none 0 0] 67));have xf:=(ge.alloc (.cells #[.string s,.int .i64 0,.slice none 0 0,.slice none 0 0] 67)).frozen 0;(go_wp2_with fail);(have M:ar ((J.alloc (.cells #[.string s,.int .i64 0,.slice none 0 0,.slice none 0 0] 67)).setCell ⟨w.heap.size,0,none⟩ (.pointer (some ⟨J.heap.size,0,none⟩))) w.heap.size 63 #[.pointer (some ⟨J.heap.size,0,none⟩)]:=by simpa using (ge.alloc _).set_ 0 _);have U:ar ((J.alloc (.cells #[.string s,.int .i64 0,.slice none 0 0,.slice none 0 0] 67)).setCell ⟨w.heap.size,0,none⟩ (.pointer (some ⟨J.heap.size,0,none⟩))) (w.heap.size+1) 3 #[.int .i64 0]:=(gn.alloc _).far (p:=⟨w.heap.size,0,none⟩) (by show w.heap.size+1≠w.heap.size;omega) _;have N:ar ((J.alloc (.cells #[.string s,.int .i64 0,.slice none 0 0,.slice none 0 0] 67)).setCell ⟨w.heap.size,0,none⟩ (.pointer (some ⟨J.heap.size,0,none⟩))) (w.heap.size+2) 29 #[.int .i64 0]:=(gl.alloc _).far (p:=⟨w.heap.size,0,none⟩) (by show w.heap.size+2≠w.heap.size;omega) _;have q:Below w.heap.size w ((J.alloc (.cells #[.string s,.int .i64 0,.slice none 0 0,.slice none 0 0] 67)).setCell ⟨w.heap.size,0,none⟩ (.pointer (some ⟨J.heap.size,0,none⟩))):=(gz.alloc (by omega) _).setCell (Nat.le_refl _) _;have g2:eo ((J.alloc (.cells #[.string s,.int .i64 0,.slice none 0 0,.slice none 0 0] 67)).setCell ⟨w.heap.size,0,none⟩ (.pointer (some ⟨J.heap.size,0,none⟩))) J.heap.size s 0 []:=
  ⟨⟨.slice none 0 0,.slice none 0 0,[],(ar.new J _ _).far (p:=⟨w.heap.size,0,none⟩) (by show J.heap.size≠w.heap.size;omega) _,fc.nil _ _,fc.nil _ _,(fun g h=>by cases h),Nat.le_refl _⟩,Nat.zero_le _,hj,by simp⟩
 generalize (J.alloc (.cells #[.string s,.int .i64 0,.slice none 0 0,.slice none 0 0] 67)).setCell ⟨w.heap.size,0,none⟩ (.pointer (some ⟨J.heap.size,0,none⟩))=w2 at *;generalize J.heap.size=X at *;clear ge gn gl gz x0 xf hq hn HW;go_loopg [28] s.size (fun gg _ wr=>∃ (i f:Nat) (l:List cK),eo wr X s i l∧ar wr w.heap.size 63 #[.pointer (some ⟨X,0,none⟩)]∧ar wr (w.heap.size+1) 3 #[.int .i64 0]∧ar wr (w.heap.size+2) 29 #[.int .i64 0]∧Below w.heap.size w wr ∧
  tC (dw s f i l)=O∧iu i l∧s.size-i+1≤f∧s.size-i≤gg)
 case atStart=>exact ⟨0,s.size+1,[],g2,M,U,N,q,HS.out,⟨Nat.le_refl _,fun t h=>by cases h⟩,by omega,by omega⟩
 case round=>
  clear g2 M U N q;obtain ⟨i,f,l,g1,M,U,N,q,gj,ga,hf,jd⟩:=hrel;have ja:=g1.le;obtain ⟨lv,nv,ns,ha⟩:=g1.out;obtain ⟨x0,x1,x2,x3,-,-,-,-⟩:=ac ha.blk;have y0:=bc M;obtain ⟨f1,rfl⟩:∃ f1,f=f1+1:=⟨f-1,by omega⟩;unfold dw at gj;by_cases hi:i<s.size
  ·rw [if_pos hi] at gj;(have hp:(i:Int)<(s.size:Int):=by omega);have g4:=hid gj;have g3:=hid (fun w' (gb:Below wr.heap.size wr w') (g6:Below w.heap.size w w')=>uW X s i l w' (g1.below gb) (HT.out.below g6).tab hi ga);have g0:=hid (tF s i l hj hi ga);clear gj ha ga;cases gi:dN s i l with
   | go j l'=>
    obtain ⟨jc,jb,gs⟩:=g0.out j l' gi;have HF:=hid (show tC (dw s f1 j l')=O by rw [←g4.out,gi]);rw [gi] at g3;have h6:=hid gs;clear gi g4 g0 gs;(go_wp2_with fail);go_quiet (fail);have gt:=aN (Below.refl wr.heap.size wr) nq;have gh:=aN q nq;have gd:=M.drewN nq;have gx:=U.drewN nq;have gv:=N.drewN nq;have y3:=bc gd;generalize wr.drewN nq=w3 at *;clear x0 x1 x2 x3 y0 M U N q;(go_wp2_with fail);refine (g3.out _ gt gh).mono ?_;rintro e w4 ⟨rfl,g5,D⟩;(go_wp2_with fail);go_roundg (s.size-j)
    case measure=>omega
    case rel=>exact ⟨j,f1,l',g5,gd.below D (by omega),gx.below D (by omega),gv.below D (by omega),gh.trans (D.mono (by omega)),HF.out,h6.out,by omega,Nat.le_refl _⟩
   | bad p=>have HF:=hid (show O=.err (p:Int) 3 by rw [←g4.out,gi];rfl);rw [gi] at g3;clear gi g4 g0;(go_wp2_with fail);go_quiet (fail);have gt:=aN (Below.refl wr.heap.size wr) nq;have gh:=aN q nq;have gd:=M.drewN nq;have gx:=U.drewN nq;have gv:=N.drewN nq;have y3:=bc gd;generalize wr.drewN nq=w3 at *;clear x0 x1 x2 x3 y0 M U N q;(go_wp2_with fail);refine (g3.out _ gt gh).mono ?_;rintro e w4 ⟨rfl,D⟩;have gy:=gd.below D (by omega);have gw:=gx.below D (by omega);have gu:=gv.below D (by omega);have he:=gh.trans (D.mono (by omega));unfold dv;refine leaves_cons (f:=72) (args:=#[.pointer (some ⟨w.heap.size,0,none⟩),.pointer (some ⟨w.heap.size+1,0,none⟩),.pointer (some ⟨w.heap.size+1+1,0,none⟩)]) (by simp) (by simp [go_sem]) ?_;refine (uX w.heap.size w.heap.size (w.heap.size+1) (w.heap.size+2) p _ _ _ w4 gy gw gu (Nat.le_refl _) (by omega) (by omega) (by omega) (by omega) (by omega)).mono ?_;rintro e u' w5 ⟨rfl,rfl,g9,g8,g7,hc⟩;have z0:=bc g9;have z1:=bc g8;have z2:w5.cell? ⟨w.heap.size+1+1,0,none⟩=some (.int .i64 3):=bc g7;rw [HF.out];simp [Leaves,settle,results,Tryz.results43,go_sem,z0,z1,z2,lR];exact he.trans hc
  ·rw [if_neg hi] at gj;have HF:=hid (show O=.toks (dc l (s.size:Int)) from gj.symm);(have hl:l.length+1≤65537:=by have:=ga.1;omega);(have hp:¬ (i:Int)<(s.size:Int):=by omega);have hh:=ga.2;have h5:=hid (fun w' (gb:Below wr.heap.size wr w') (g6:Below w.heap.size w w')=>pl X s i l (s.size:Int) hl w' (g1.below gb) (HT.out.below g6).tab hh);clear gj ha hh ga;(go_wp2_with fail);go_quiet (fail);have gt:=aN (Below.refl wr.heap.size wr) nq;have gh:=aN q nq;have gd:=M.drewN nq;have gx:=U.drewN nq;have gv:=N.drewN nq;have y3:=bc gd;have h7:(wr.drewN nq).cell? ⟨X,0,none⟩=some (.string s):=x0;generalize wr.drewN nq=w3 at *;clear x0 x1 x2 x3 y0 M U N q;(go_wp2_with fail);refine B2 ?_;go_region_law (first
    | (go_simp;go_at_call 74;refine (h5.out _ gt.drew gh.drew).mono ?_;rintro e w4 ⟨rfl,g5,D⟩;have gy:=gd.drew.below D (by omega);have y4:=bc gy))
   all_goals unfold FV;have gw:=gx.drew.below D (by omega);have gu:=gv.drew.below D (by omega);have he:=gh.drew.trans (D.mono (by omega));have yf:=gy.frozen 0;have u4:=bc gw;have uf:=gw.frozen 0;have v4:=bc gu;have vf:=gu.frozen 0;(go_wp2_with fail);(have g9:ar (w4.setCell ⟨w.heap.size,0,none⟩ (.pointer (some ⟨X,0,none⟩))) w.heap.size 63 #[.pointer (some ⟨X,0,none⟩)]:=by simpa using gy.set_ 0 (.pointer (some ⟨X,0,none⟩)));have g8:=gw.far (p:=⟨w.heap.size,0,none⟩) (by show w.heap.size+1≠w.heap.size;omega) (.pointer (some ⟨X,0,none⟩));have g7:=gu.far (p:=⟨w.heap.size,0,none⟩) (by show w.heap.size+2≠w.heap.size;omega) (.pointer (some ⟨X,0,none⟩));have h2:∀ b,X≤b→(w4.setCell ⟨w.heap.size,0,none⟩ (.pointer (some ⟨X,0,none⟩))).heap[b]? = w4.heap[b]? := fun b hb=>Below.heap_setCell w4 ⟨w.heap.size,0,none⟩ _ b (by show b≠w.heap.size;omega);have hc:=he.setCell (p:=⟨w.heap.size,0,none⟩) (Nat.le_refl _) (.pointer (some ⟨X,0,none⟩));generalize w4.setCell ⟨w.heap.size,0,none⟩ (.pointer (some ⟨X,0,none⟩))=w5 at *;(have hw:ar (w5.setCell ⟨w.heap.size+1,0,none⟩ (.int .i64 0)) (w.heap.size+1) 3 #[.int .i64 0]:=by simpa using g8.set_ 0 (.int .i64 0));have hz:=g9.far (p:=⟨w.heap.size+1,0,none⟩) (by show w.heap.size≠w.heap.size+1;omega) (.int .i64 0);have ht:=g7.far (p:=⟨w.heap.size+1,0,none⟩) (by show w.heap.size+2≠w.heap.size+1;omega) (.int .i64 0);have h1:∀ b,X≤b→(w5.setCell ⟨w.heap.size+1,0,none⟩ (.int .i64 0)).heap[b]? = w4.heap[b]? := fun b hb=>(Below.heap_setCell w5 ⟨w.heap.size+1,0,none⟩ _ b (by show b≠w.heap.size+1;omega)).trans (h2 b hb);have h4:=hc.setCell (p:=⟨w.heap.size+1,0,none⟩) (Nat.le_succ _) (.int .i64 0);generalize w5.setCell ⟨w.heap.size+1,0,none⟩ (.int .i64 0)=w6 at *;(have hr:ar (w6.setCell ⟨w.heap.size+1+1,0,none⟩ (.int .i64 0)) (w.heap.size+2) 29 #[.int .i64 0]:=by simpa using ht.set_ 0 (.int .i64 0));have hy:=hz.far (p:=⟨w.heap.size+1+1,0,none⟩) (by show w.heap.size≠w.heap.size+1+1;omega) (.int .i64 0);have hu:=hw.far (p:=⟨w.heap.size+1+1,0,none⟩) (by show w.heap.size+1≠w.heap.size+1+1;omega) (.int .i64 0);have h0:∀ b,X≤b→(w6.setCell ⟨w.heap.size+1+1,0,none⟩ (.int .i64 0)).heap[b]? = w4.heap[b]? := fun b hb=>(Below.heap_setCell w6 ⟨w.heap.size+1+1,0,none⟩ _ b (by show b≠w.heap.size+1+1;omega)).trans (h1 b hb);have h3:=h4.setCell (p:=⟨w.heap.size+1+1,0,none⟩) (show w.heap.size≤w.heap.size+1+1 by omega) (.int .i64 0);generalize w6.setCell ⟨w.heap.size+1+1,0,none⟩ (.int .i64 0)=w7 at *;have g2:=g5.keep h0;refine leaves_cons (f:=72) (args:=#[.pointer (some ⟨w.heap.size,0,none⟩),.pointer (some ⟨w.heap.size+1,0,none⟩),.pointer (some ⟨w.heap.size+1+1,0,none⟩)]) (by simp) (by simp [go_sem]) ?_;refine (Av _ _ _ _).mono ?_;rintro e u' w8 ⟨rfl,rfl,rfl⟩;have z0:=bc hy;have z1:=bc hu;have z2:w8.cell? ⟨w.heap.size+1+1,0,none⟩=some (.int .i64 0):=bc hr;clear y4 u4 v4 yf uf vf;rw [HF.out];simp [Leaves,settle,results,Tryz.results43,go_sem,z0,z1,z2,lR];exact ⟨⟨i,g2⟩,by omega,h3⟩
theorem fc.reads {B:Nat} {w:World} {v:Value} {l:List cK} (h:fc B w v l):∃ A c,v=.slice A l.length c∧l.length≤c∧bB w w.heap.size 3 A l.length (l.flatMap nM):=by
 obtain ⟨A,c,I,J⟩:=h.form;refine ⟨A,c,I,J,?_⟩;by_cases O:l.length=0
 ·exact ⟨by rw [m8 fY],fun M=>by omega⟩
 ·obtain ⟨g,c',D,N,K⟩:=World.ownsRow.form h (by omega);rw [I] at D;injection D with e1 e2 e3;subst e1 e3;exact bB.of_own (I▸h:w.ownsRow B _ 3 (.slice (some ⟨g,0,none⟩) l.length c) l.length (l.flatMap nM))
theorem Aw {w:World} {A:Option Addr} {B n R:Nat} {xs:List Value} (h:bB w B 3 A n xs) (N:B≤R):dk (· < R) w 3 A n xs:=by
 refine ⟨h.1,fun K=>?_⟩;obtain ⟨ad,O,hb,J⟩:=h.2 K;(have M:0<xs.length:=by rw [h.1];omega);have U:=J 0 xs[0] (List.getElem?_eq_getElem M);have D:=lh (show w.cell? ad=some xs[0] from U);obtain ⟨b,o,s⟩:=ad;(have I:s=none:=by simpa using D);subst I;refine ⟨b,o,O,Nat.lt_of_lt_of_le hb N,fun j u hu=>?_⟩;have:=J j u hu
 rwa [nL] at this
theorem nS {s:ByteArray} {p n:Int} (h:di s=.err p n):n=12∨n=2∨n=3:=by
 unfold di at h;split at h
 ·injection h with _ h;exact .inl h.symm
 ·split at h
  ·injection h with _ h;exact .inr (.inl h.symm)
  ·cases hs:dw s (s.size+1) 0 [] with
   | ok l=>rw [hs] at h;cases h
   | bad q=>rw [hs] at h;injection h with _ h;exact .inr (.inr h.symm)
def Ez (w:World) (r:nj) (e:Ending) (w':World):Prop:=
 match r with
 | .toks L=>∃ A cp,e=.returned (.tuple #[.slice A L.length cp,.int .i64 0,.int .i64 0])∧L.length≤cp∧L.length≤65537∧bB w' w'.heap.size 3 A L.length (L.flatMap nM)∧Below w.heap.size w w'
 | .err p n=>e=.returned (.tuple #[.slice none 0 0,.int .i64 p,.int .i64 n])∧Below w.heap.size w w'
theorem tG (A:Option Addr) (c:Nat) (s:ByteArray) (w:World) (U:du w A c s) (h:iD w) (K:s.size≤1000000000) :
  Calls Tryz.prog 19 #[.slice A s.size c] w (Ez w (di s)):=by
 have N:=hid (B3 A c s w U h K);clear U h;cases M:di s with
 | toks L=>rw [M] at N;clear M;(go_enter Tryz.func19,Tryz.ntmps19);(go_wp2_with fail);refine N.out.mono ?_;rintro e w1 ⟨X,i,rfl,D,hX,hB⟩;obtain ⟨lv,nv,ns,I⟩:=D.out;obtain ⟨x0,x1,x2,x3,-,-,-,-⟩:=ac I.blk;obtain ⟨A',cp,rfl,O,j⟩:=I.toks.reads;have J:=D.few;clear D I N;(go_wp2_with fail);go_ret3;exact ⟨A',cp,rfl,O,J,j,hB⟩
 | err p n=>have u:=nS M;(have q:(n != 0)=true:=by rw [bne_iff_ne];omega);rw [M] at N;clear M u;(go_enter Tryz.func19,Tryz.ntmps19);(go_wp2_with fail);refine N.out.mono ?_;rintro e w1 ⟨rfl,hB⟩;(go_wp2_with fail);go_ret3;exact ⟨rfl,hB⟩
theorem nm (s:ByteArray) (M:s.size≤65536):∀ (f i:Nat) (l:List cK) (L:List cK),dw s f i l=.ok L→iu i l→i≤s.size→∀ t∈L,t.text.size≤65536
 | 0,_,_,_,h,_,_=>by cases h
 | f+1,i,l,L,h,D,U=>by
  rw [dw] at h;by_cases K:i<s.size
  ·rw [if_pos K] at h;cases J:dN s i l with
   | go j l'=>rw [J] at h;obtain ⟨_,O,N⟩:=tF s i l M K D j l' J;exact nm s M f j l' L h N O
   | bad q=>rw [J] at h;cases h
  ·rw [if_neg K] at h;injection h with h;subst h;intro t I;unfold dc at I;split at I
   ·rcases List.mem_append.1 I with I | I
    ·exact D.2 t I
    ·(obtain rfl:t=_:=by simpa using I);show (⟨#[10]⟩:BA).size≤65536;decide
   ·exact D.2 t I
theorem tH {s:ByteArray} {L:List cK} (h:di s=.toks L):∀ t∈L,t.text.size≤65536:=by
 unfold di at h;split at h
 ·cases h
 ·split at h
  ·cases h
  ·cases hs:dw s (s.size+1) 0 [] with
   | ok l=>rw [hs] at h;injection h with h;subst h;exact nm s (by omega) _ _ _ _ hs ⟨Nat.le_refl _,fun t h=>by cases h⟩ (Nat.zero_le _)
   | bad q=>rw [hs] at h;cases h
def mP (c:Nat):Int:=match dZ c with | some d=>(d:Int) | none => -1
theorem iX (c:Nat) (hc:c<2000000) (w:World):Calls Tryz.prog 110 #[.int .i32 (c:Int)] w fun e w'=>e=.returned (.int .i64 (mP c))∧w=w':=by
 by_cases J:48≤c∧c≤57
 ·have I:=hid (show mP c=(c:Int)-48 by unfold mP dZ;rw [if_pos J];simp only;omega);(have N:decide ((48:Int)≤(c:Int))=true:=by rw [decide_eq_true_iff];omega);(have M:decide ((c:Int)≤(57:Int))=true:=by rw [decide_eq_true_iff];omega);have j:IntKind.i32.wrap ((c:Int)-48)=(c:Int)-48:=IntWalk.i32_in _ (by omega);have h:IntKind.i64.wrap ((c:Int)-48)=(c:Int)-48:=IntWalk.i64_in _ (by omega);(go_enter Tryz.func110,Tryz.ntmps110);(go_wp2_with fail);go_ret;exact ⟨(by rw [I.out];first | done | rfl),rfl⟩
 (have D:(decide ((48:Int)≤(c:Int))&&decide ((c:Int)≤(57:Int)))=false:=by rw [Bool.and_eq_false_iff,decide_eq_false_iff_not,decide_eq_false_iff_not];omega);by_cases K:97≤c∧c≤102
 ·have I:=hid (show mP c=(c:Int)-97+10 by unfold mP dZ;rw [if_neg J,if_pos K];simp only;omega);(have e0:decide ((48:Int)≤(c:Int))=true:=by rw [decide_eq_true_iff];omega);(have U:decide ((c:Int)≤(57:Int))=false:=by rw [decide_eq_false_iff_not];omega);(have N:decide ((97:Int)≤(c:Int))=true:=by rw [decide_eq_true_iff];omega);(have M:decide ((c:Int)≤(102:Int))=true:=by rw [decide_eq_true_iff];omega);have j:IntKind.i32.wrap ((c:Int)-97)=(c:Int)-97:=IntWalk.i32_in _ (by omega);have h:IntKind.i64.wrap ((c:Int)-97)=(c:Int)-97:=IntWalk.i64_in _ (by omega);have u:IntKind.i64.wrap ((c:Int)-97+10)=(c:Int)-97+10:=IntWalk.i64_in _ (by omega);clear D;(go_enter Tryz.func110,Tryz.ntmps110);(go_wp2_with fail);go_ret;exact ⟨(by rw [I.out];first | done | rfl),rfl⟩
 by_cases O:65≤c∧c≤70
 ·have I:=hid (show mP c=(c:Int)-65+10 by unfold mP dZ;rw [if_neg J,if_neg K,if_pos O];simp only;omega);(have e0:decide ((48:Int)≤(c:Int))=true:=by rw [decide_eq_true_iff];omega);(have U:decide ((c:Int)≤(57:Int))=false:=by rw [decide_eq_false_iff_not];omega);(have N:decide ((97:Int)≤(c:Int))=false:=by rw [decide_eq_false_iff_not];omega);(have M:decide ((65:Int)≤(c:Int))=true:=by rw [decide_eq_true_iff];omega);(have q:decide ((c:Int)≤(70:Int))=true:=by rw [decide_eq_true_iff];omega);have j:IntKind.i32.wrap ((c:Int)-65)=(c:Int)-65:=IntWalk.i32_in _ (by omega);have h:IntKind.i64.wrap ((c:Int)-65)=(c:Int)-65:=IntWalk.i64_in _ (by omega);have u:IntKind.i64.wrap ((c:Int)-65+10)=(c:Int)-65+10:=IntWalk.i64_in _ (by omega);clear D;(go_enter Tryz.func110,Tryz.ntmps110);(go_wp2_with fail);go_ret;exact ⟨(by rw [I.out];first | done | rfl),rfl⟩
 ·have I:=hid (show mP c = -1 by unfold mP dZ;rw [if_neg J,if_neg K,if_neg O]);clear D;cases N:decide ((48:Int)≤(c:Int)) <;> cases M:decide ((c:Int)≤(57:Int)) <;> cases q:decide ((97:Int)≤(c:Int)) <;> cases e4:decide ((c:Int)≤(102:Int)) <;> cases e5:decide ((65:Int)≤(c:Int)) <;> cases e6:decide ((c:Int)≤(70:Int));all_goals
   first
    | (exfalso;simp only [decide_eq_true_iff,decide_eq_false_iff_not] at N M q e4 e5 e6;omega)
    | (clear J K O;(go_enter Tryz.func110,Tryz.ntmps110);(go_wp2_with fail);go_ret;exact ⟨(by rw [I.out];first | done | rfl),rfl⟩)
def mw (B:Nat) (w:World) (v:Value) (l:List Nat):Prop:=w.ownsRow B 3 1 v l.length (l.map fun (d:Nat)=>Value.int .i64 (d:Int))
def uY (B:Nat) (w:World) (v:Value) (l:List UInt8):Prop:=w.ownsRow B 5 1 v l.length (l.map fun c=>Value.int .u8 (c.toNat:Int))
theorem tI {B:Nat} {w w':World} {e:TypeId} {n:Nat} {v:Value} {xs:List Value} (h:w.ownsRow B e 1 v n xs) (K:∀ b,B≤b→b<w.heap.size→w'.heap[b]? = w.heap[b]?):w'.ownsRow B e 1 v n xs:=by
 refine ⟨h.1,?_⟩;rcases h.2 with M | ⟨g,cap,cur,e,J,I,r⟩
 ·exact .inl M
 ·refine .inr ⟨g,cap,cur,e,J,?_,r⟩;have D:g<w.heap.size:=by
   rcases Nat.lt_or_ge g w.heap.size with D | hge
   ·exact D
   ·rw [Array.getElem?_eq_none hge] at I;cases I
  exact (K g J D).trans I
theorem ml {B:Nat} {w:World} {e:TypeId} {n:Nat} {v:Value} {xs:List Value} (h:w.ownsRow B e 1 v n xs):∃ A c,v=.slice A n c∧n≤c:=by
 rcases h.2 with ⟨rfl,I⟩ | ⟨g,cap,cur,rfl,_,_,D,_⟩
 ·exact ⟨none,0,by rw [I],by omega⟩
 ·exact ⟨_,cap,rfl,D⟩
theorem EA:(Tryz.prog.info? 3).map (fun i=>(i.zero,i.size,i.bytes))=some (some (.int .i64 0),1,8):=by kernel_rfl
theorem tJ:(Tryz.prog.info? 5).map (fun i=>(i.zero,i.size,i.bytes))=some (some (.int .u8 0),1,1):=by kernel_rfl
theorem sv {ops:Array Oper} {rest:List Oper} {o:Oper} {a:Act} {Q:Exit→Act→World→Prop} (O:o.guard=none) (s x:Operand)
  (ho:o.op=.call { callee:=.builtin .append,args:=#[s,x],argTypes:=#[87,87] })
  (B:Nat) (I:World) (u:Value) (l:List Nat) (d:Nat) (D:Int) (hs:a.eval s=u) (S:Nat) (q:a.eval x=.slice (some ⟨S,0,none⟩) 1 1) (hS:I.heap.size=S) (hD:D=(d:Int))
  (U:mw B I u l) (hB:B≤I.heap.size) (hl:l.length≤1000000)
  (h:∀ g c w2,mw B w2 (.slice (some ⟨g,0,none⟩) (l.length+1) c) (l++[d])→Below B I w2→wpList Tryz.prog ops Q rest (a.put o.dst (.slice (some ⟨g,0,none⟩) (l.length+1) c)) w2) :
  wpList Tryz.prog ops Q (o::rest) a (I.alloc (.cells #[.int .i64 D] 3)):=by
 subst hS hD;refine wpList_plain O fun _ hK=>?_;obtain ⟨j,hi,N,M,K⟩:=info_parts EA;refine wp_append_lies _ s x 87 ho B 3 j _ 1 8 Tryz.underlying87 hi N M K rfl (by omega) u l.length _ hs (World.ownsRow.alloc U _) ⟨I.heap.size,0,none⟩ 1 1 [.int .i64 (d:Int)] q rfl
  (World.news_of_block (cs:=#[.int .i64 (d:Int)]) (heap_alloc_new _ _)) (by simp [Value.oneCell']) (by omega) (by unfold maxLen;omega) (by omega) (by rw [World.size_alloc];omega) _ rfl ?_
 intro g c w2 hown1 J hat _;refine hK _ _ (h g c w2 ?_ ?_)
 ·unfold mw;rw [List.map_append,List.length_append];exact hown1
 ·have h1:=(Below.refl B I).alloc hB (.cells #[.int .i64 (d:Int)] 3);exact h1.trans ⟨J.os,J.tape,J.output,J.size,fun k hk=>J.block k (by rw [World.size_alloc];omega) (fun e=>by have:=(World.ownsRow.lt U k e.symm).1;omega)⟩
theorem nn {ops:Array Oper} {rest:List Oper} {o:Oper} {a:Act} {Q:Exit→Act→World→Prop} (O:o.guard=none) (s x:Operand)
  (ho:o.op=.call { callee:=.builtin .append,args:=#[s,x],argTypes:=#[27,27] })
  (B:Nat) (I:World) (u:Value) (l:List UInt8) (d:UInt8) (D:Int) (hs:a.eval s=u) (S:Nat) (q:a.eval x=.slice (some ⟨S,0,none⟩) 1 1) (hS:I.heap.size=S) (hD:D=(d.toNat:Int))
  (U:uY B I u l) (hB:B≤I.heap.size) (hl:l.length≤1000000)
  (h:∀ g c w2,uY B w2 (.slice (some ⟨g,0,none⟩) (l.length+1) c) (l++[d])→Below B I w2→wpList Tryz.prog ops Q rest (a.put o.dst (.slice (some ⟨g,0,none⟩) (l.length+1) c)) w2) :
  wpList Tryz.prog ops Q (o::rest) a (I.alloc (.cells #[.int .u8 D] 5)):=by
 subst hS hD;refine wpList_plain O fun _ hK=>?_;obtain ⟨j,hi,N,M,K⟩:=info_parts tJ;refine wp_append_lies _ s x 27 ho B 5 j _ 1 1 Tryz.underlying27 hi N M K rfl (by omega) u l.length _ hs (World.ownsRow.alloc U _) ⟨I.heap.size,0,none⟩ 1 1 [.int .u8 (d.toNat:Int)] q rfl
  (World.news_of_block (cs:=#[.int .u8 (d.toNat:Int)]) (heap_alloc_new _ _)) (by simp [Value.oneCell']) (by omega) (by unfold maxLen;omega) (by omega) (by rw [World.size_alloc];omega) _ rfl ?_
 intro g c w2 hown1 J hat _;refine hK _ _ (h g c w2 ?_ ?_)
 ·unfold uY;rw [List.map_append,List.length_append];exact hown1
 ·have h1:=(Below.refl B I).alloc hB (.cells #[.int .u8 (d.toNat:Int)] 5);exact h1.trans ⟨J.os,J.tape,J.output,J.size,fun k hk=>J.block k (by rw [World.size_alloc];omega) (fun e=>by have:=(World.ownsRow.lt U k e.symm).1;omega)⟩
theorem uZ (c:Nat) (I:0<c) (h:c<100):eN c=c % 10::eN (c / 10):=by
 unfold eN;by_cases D:c<10
 ·rw [if_neg (by omega),if_pos D,Nat.mod_eq_of_lt D,if_pos (by omega)]
 ·rw [if_neg (by omega),if_neg D,if_neg (by omega),if_pos (by omega)]
theorem Qz0:eN 0=[]:=rfl
theorem B4 (c:Nat) (h:c<100):∀ x∈eN c,x≤9:=by
 unfold eN;intro x D;split at D
 ·cases D
 ·split at D
  ·(obtain rfl:x=c:=by simpa using D);omega
  ·rcases List.mem_cons.1 D with rfl | D
   ·omega
   ·(obtain rfl:x=c / 10:=by simpa using D);omega
theorem Ax (c:Nat):(eN c).length≤2:=by
 unfold eN;split
 ·simp
 ·split <;> simp
theorem tK (f:Nat) (I:f≤16):∀ (l:List Nat) (m:Nat),(∀ x∈l,x≤9)→m≤15→∀ x∈cI f l m,x≤9
 | [],m,_,K,x,D=>B4 m (by omega) x D
 | y::r,m,hd,K,x,D=>by
  have J:=hd y (List.mem_cons_self);have hb:y * f≤9 * 16:=Nat.mul_le_mul J I;rw [cI] at D;rcases List.mem_cons.1 D with rfl | D
  ·omega
  ·exact tK f I r _ (fun z hz=>hd z (List.mem_cons_of_mem _ hz)) (by omega) x D
theorem nT (f:Nat):∀ (l:List Nat) (m:Nat),(cI f l m).length≤l.length+2
 | [],m=>by rw [cI];have:=Ax m;simp;omega
 | y::r,m=>by rw [cI,List.length_cons,List.length_cons];have:=nT f r ((y * f+m) / 10);omega
theorem Ay (B:Nat) (v:Value) (l:List Nat) (f m:Nat) (w:World) (K:mw B w v l) (hB:B≤w.heap.size) (hd:∀ x∈l,x≤9) (hf:f≤16) (hm:m≤15) (hl:l.length≤1000) :
  Calls Tryz.prog 111 #[v,.int .i64 (f:Int),.int .i64 (m:Int)] w fun e w'=>∃ v',e=.returned v'∧mw B w' v' (cI f l m)∧Below B w w':=by
 obtain ⟨A,cp,rfl,gx⟩:=ml K;obtain ⟨T,hT⟩:∃ T,T=cI f l m:=⟨_,rfl⟩;rw [←hT];have HT:=hid hT;(have gz:T.length≤1002:=by rw [hT];have:=nT f l m;omega);clear hT;(go_enter Tryz.func111,Tryz.ntmps111);(go_wp2_with fail);go_loopg [2,7,8,11] l.length (fun gg u2 _ _ u11 wr=>∃ (i c:Nat) (done:List Nat),i≤l.length∧l.length-i≤gg∧u2=.int .i64 (c:Int)∧u11=.int .i64 (i:Int)∧done.length=i∧mw B wr (.slice A l.length cp) (done++l.drop i)∧Below B w wr∧done++cI f (l.drop i) c=T∧c≤15)
 case atStart=>exact ⟨0,m,[],Nat.zero_le _,by omega,rfl,rfl,rfl,K,Below.refl _ _,HT.out.symm,hm⟩
 case round=>
  clear K hm;obtain ⟨i,c,done,hi,gu,rfl,rfl,gj,K,D,hq,hc⟩:=hrel;have HO:=hid K;have h:=hid hq;have I:=hid gj;clear K hq gj;by_cases gh:i<l.length
  ·(have ge:(i:Int)<(l.length:Int):=by omega);(have g1:(0:Int)≤(i:Int):=by omega);have j:=List.drop_eq_getElem_cons gh;have ga:=hd _ (List.getElem_mem gh);generalize l[i]=x at *;have gq:=hid j;have J:=HO.out;rw [j] at J;clear j;obtain ⟨g,c',hv,gl,gt⟩:=World.ownsRow.form J (by rw [List.length_append,List.length_cons];omega);(have O:(done++x::l.drop (i+1)).length=l.length:=by rw [List.length_append,List.length_cons,List.length_drop,I.out];omega);injection hv with e1 e2 e3;subst e1 e3;unfold mw at J;rw [O] at J;have q:=World.ownsRow.cellAt J i (by omega);have gv:=World.ownsRow.frozenAt J i;(have U:((done++x::l.drop (i+1)).map fun (d:Nat)=>Value.int .i64 (d:Int))[i]? = some (.int .i64 (x:Int)):=by rw [List.map_append,List.getElem?_append_right (by rw [List.length_map,I.out];exact Nat.le_refl _)];simp [I.out]);rw [U] at q;have hp:x * f≤9 * 16:=Nat.mul_le_mul ga hf;(have q1:IntKind.i64.wrap ((x:Int) * (f:Int))=((x * f:Nat):Int):=by rw [show (x:Int) * (f:Int)=((x * f:Nat):Int) by simp];exact IntWalk.i64_in _ (by omega));have HX:=hid (show cI f (l.drop i) c=(x * f+c) % 10::cI f (l.drop (i+1)) ((x * f+c) / 10) by rw [gq.out,cI]);generalize x * f=p at *;have q2:IntKind.i64.wrap ((p:Int)+(c:Int))=(p:Int)+(c:Int):=IntWalk.i64_in _ (by omega);have gb:=World.ownsRow.stored J i (.int .i64 (((p:Int)+(c:Int)) % 10));(have N:mw B (wr.setCell ⟨g,i,none⟩ (.int .i64 (((p:Int)+(c:Int)) % 10))) (.slice (some ⟨g,0,none⟩) l.length cp) ((done++[(p+c) % 10])++l.drop (i+1)):=by have h1:=gb.1;(have e:((done++x::l.drop (i+1)).map fun (d:Nat)=>Value.int .i64 (d:Int)).set i (.int .i64 (((p:Int)+(c:Int)) % 10))=((done++[(p+c) % 10])++l.drop (i+1)).map fun (d:Nat)=>Value.int .i64 (d:Int):=by rw [show ((p:Int)+(c:Int)) % 10=(((p+c) % 10:Nat):Int) by omega];rw [List.map_append,List.set_append_right _ _ (by rw [List.length_map,I.out];exact Nat.le_refl _)];simp [I.out]);rw [e] at h1;unfold mw;rw [show ((done++[(p+c) % 10])++l.drop (i+1)).length=l.length by rw [List.length_append,List.length_append,List.length_drop,I.out];simp;omega];exact h1);have u:Below B w (wr.setCell ⟨g,i,none⟩ (.int .i64 (((p:Int)+(c:Int)) % 10))):=D.setCell (by exact gl) _;have gp:=hid N;have HI:=hid (show (((p:Int)+(c:Int)) / 10)=(((p+c) / 10:Nat):Int) by omega);(have gd:(p+c) / 10≤15:=by omega);clear gb N J U ga O e2;(go_wp2_with fail);go_roundg (l.length-(i+1))
   case measure=>omega
   case rel=>exact ⟨i+1,(p+c) / 10,done++[(p+c) % 10],by omega,Nat.le_refl _,by rw [HI.out],by go_num,by rw [List.length_append,I.out];rfl,gp.out,u,by rw [←h.out,HX.out,List.append_assoc];rfl,gd⟩
  ·(have ge:¬ (i:Int)<(l.length:Int):=by omega);have M:=hid (show done++eN c=T by rw [←h.out,List.drop_of_length_le (by omega),cI]);have yk:=hid (show mw B wr (.slice A l.length cp) done by have:=HO.out;rw [List.drop_of_length_le (by omega),List.append_nil] at this;exact this);(have gi:done.length=l.length:=by have:=I.out;omega);have g2:=hid gi;clear h HO I gi;rename World=>wo;(go_wp2_with fail);go_loopg [0,2] c (fun gg u0 u2 wr=>∃ (L:List Nat) (d:Nat),mw B wr u0 L∧u2=.int .i64 (d:Int)∧L++eN d=T∧Below B w wr∧d≤15∧d≤gg)
   case atStart=>exact ⟨done,c,yk.out,rfl,M.out,D,hc,Nat.le_refl _⟩
   case round=>
    clear yk M D hc;obtain ⟨L,d,K,rfl,hq,D,gr,gw⟩:=hrel;have HO:=hid K;have h:=hid hq;obtain ⟨A1,c1,hu,gy⟩:=ml K;clear K hq;subst hu;by_cases gm:0<d
    ·(have gs:(0:Int)<(d:Int):=by omega);have M:=hid (show (L++[d % 10])++eN (d / 10)=T by rw [←h.out,uZ d gm (by omega),List.append_assoc];rfl);(have g0:L.length≤1002:=by have:=congrArg List.length h.out;rw [List.length_append] at this;omega);have HI:=hid (show ((d:Int) / 10)=((d / 10:Nat):Int) by omega);have HM:=hid (show ((d:Int) % 10)=((d % 10:Nat):Int) by omega);clear h;go_wp2_with (at_builtin;refine sv rfl (.tmp 31) (.tmp 34) rfl B _ _ L (d % 10) _ rfl _ rfl rfl HM.out HO.out (by have:=D.size;omega) (by omega) ?_;intro g c w2 gn u);go_roundg (d / 10)
     case measure=>omega
     case rel=>exact ⟨L++[d % 10],d / 10,gn,by rw [HI.out],M.out,D.trans u,by omega,Nat.le_refl _⟩
    ·(obtain rfl:d=0:=by omega);have HL:=hid (show L=T by rw [←h.out,Qz0,List.append_nil]);(go_wp2_with fail);go_ret;exact ⟨_,rfl,by rw [←HL.out];exact HO.out,D⟩
end
end Go.Proofs.YtiebcdeafofgdaaGreatDoor
