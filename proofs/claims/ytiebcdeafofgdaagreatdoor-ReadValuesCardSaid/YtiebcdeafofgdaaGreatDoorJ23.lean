/-
  Parts of the proof: Pwrong Bytes Scatch Sscan Scan2. By an AI agent.
-/
import Derived.Test.YtiebcdeafofgdaaGreatDoorJ22
import Derived.Test.YtiebcdeafofgdaaGreatDoorJ01
import Derived.Test.YtiebcdeafofgdaaGreatDoorJ20
import Derived.Test.YtiebcdeafofgdaaGreatDoorJ05
import Derived.Lib.BufferRead
import Derived.BigQuiet
import Derived.Defers
import Derived.Recover
set_option maxRecDepth 100000
set_option maxHeartbeats 8000000
namespace Go.Proofs.YtiebcdeafofgdaaGreatDoor
section
open Go.RowKit Go.Lib Go.Proofs
attribute [local go_sem ↓] Go.wp_at_zero Go.wp_at_succ
theorem LV:Tryz.prog.underlying 27=some (.slice (Tryz.prog.elem 27)):=by kernel_rfl
theorem Lh:Tryz.prog.elem 27=5:=by kernel_rfl
theorem LW (w:World):(sizeOf (Tryz.prog.elem 27)).run Tryz.prog w=.ok 1 w:=by rw [Lh];exact Tryz.sizeOf5 w
theorem ur (g o n c k:Nat) (I:k<n) (D:n≤c) (W:World):(Instr.slice 27 (.slice (some ⟨g,o,none⟩) n c) (some (.int .i64 (k:Int))) none none).run Tryz.prog W=.ok (.slice (some ⟨g,o+k,none⟩) (n-k) (c-k)) W:=by rw [run_slice_l (P:=Tryz.prog) W 27 _ n c LV .i64 (k:Int) (by omega) (by omega),LW];simp only [Result.andThen,sliced,Int.toNat_natCast];rw [if_neg (by omega)];simp [nD]
def mY (r:Option Nat):Int:=match r with | some i=>(i:Int) | none => -1
theorem DB (g o c:Nat) (s:ByteArray) (w:World) (hT:iq w) (hb:Lib.Bytes w g o s) (hg:g<w.heap.size) (hc:s.size≤c) (gr:s.size≤1000000000) :
  Calls Tryz.prog 71 #[.slice (some ⟨g,o,none⟩) s.size c] w fun e w'=>e=.returned (.int .i64 (mY (dE s)))∧Below w.heap.size w w':=by
 have M:=hid (fun w' (hB:Below w.heap.size w w') j (hj:j<s.size)=>uo g o c j s w' (hT.below hB) (fun i hi=>(World.cell?_of_block (a:=⟨g,o+i,none⟩) (hB.block g hg)).trans (hb i hi)) hj);have gn:=run_convert_whole (P:=Tryz.prog) w 27 5 9 Tryz.underlying27 Tryz.underlying5 Tryz.underlying9 g o s hb c;have hcut:=fun k hk W=>ur g o s.size c k hk hc W;obtain ⟨R,hR⟩:∃ R,R=dE s:=⟨_,rfl⟩;rw [←hR];have gp:=hid (show bM s s.size 0=R from hR.symm);clear hb hT hR;(go_enter Tryz.func71,Tryz.ntmps71);(go_wp2_with fail);clear gn;go_loopg [3,4,5,6,10,11] s.size (fun gg _ _ _ _ _ _ wr=>∃ j f:Nat,j≤s.size∧s.size-j≤gg∧wr.heap[w.heap.size]? = some (.stringIter s j)∧Below w.heap.size w wr∧bM s f j=R∧s.size-j≤f)
 case atStart=>exact ⟨0,s.size,Nat.zero_le _,by omega,World.iter_heap w _ 0,(Below.refl w.heap.size w).alloc (Nat.le_refl _) _,gp.out,by omega⟩
 case round=>
  obtain ⟨j,f,hj,gv,hit,U,gh,hf⟩:=hrel;have gd:=hid hit;have gb:=hid gh;clear hit gh;by_cases I:j<s.size
  ·obtain ⟨f1,rfl⟩:∃ f1,f=f1+1:=⟨f-1,by omega⟩;have HQ:=hid (fun (_:Nat)=>show (if (Utf8.decode s j).1=0∨((Utf8.decode s j).1=65533∧(Utf8.decode s j).2=1)∨((Utf8.decode s j).1=65279∧0<j) then some j else bM s f1 (j+(Utf8.decode s j).2))=R by have:=gb.out;rw [bM,if_pos I] at this;exact this);have O:=fun ty=>run_next_any_at (P:=Tryz.prog) wr w.heap.size s j ty gd.out I;have gj:1≤(Utf8.decode s j).2∧j+(Utf8.decode s j).2≤s.size:=by
    by_cases gi:aa s j<128
    ·rw [d8 s j gi];exact ⟨Nat.le_refl _,I⟩
    ·have:=d5 s j I (by omega);exact ⟨this.2.1,this.2.2.1⟩
   have M:=hid (fun w' (hB:Below w.heap.size w w')=>M.out w' hB j I);generalize Utf8.decode s j=q at *;obtain ⟨r,k⟩:=q;simp only at gj O HQ M;obtain ⟨gt,gs⟩:=gj;have j1:=iterAt_heap wr w.heap.size s j (j+k) gd.out;have J:Below w.heap.size w (wr.iterAt w.heap.size s (j+k)):=bR U (Nat.le_refl _);have j0:w.heap.size<(wr.iterAt w.heap.size s (j+k)).heap.size:=by
    rcases Nat.lt_or_ge w.heap.size (wr.iterAt w.heap.size s (j+k)).heap.size with h | h
    ·exact h
    ·rw [Array.getElem?_eq_none h] at j1;cases j1
   generalize wr.iterAt w.heap.size s (j+k)=W1 at O j1 J j0;have gw:=hcut j I;have J1:=hid j1;have hq:=trivial;clear j1 U gb;by_cases ge:r=0
   ·have y:=hid (show (r=0∨(r=65533∧k=1)∨(r=65279∧0<j)) by omega);subst ge;have N:=hid (show R=some j by rw [←HQ.out f1,if_pos y.out]);clear hq;(go_wp2_with fail);refine (M.out _ J).mono ?_;rintro e w3 ⟨rfl,D⟩;(go_wp2_with fail);go_ret;exact ⟨by rw [N.out];rfl,J.trans (D.mono J.size)⟩
   ·by_cases ga:r=65533
    ·by_cases gm:k=1
     ·have y:=hid (show (r=0∨(r=65533∧k=1)∨(r=65279∧0<j)) by omega);subst ga gm;have N:=hid (show R=some j by rw [←HQ.out f1,if_pos y.out]);clear hq;(go_wp2_with fail);refine (M.out _ J).mono ?_;rintro e w3 ⟨rfl,D⟩;(go_wp2_with fail);go_ret;exact ⟨by rw [N.out];rfl,J.trans (D.mono J.size)⟩
     ·have y:=hid (show ¬ (r=0∨(r=65533∧k=1)∨(r=65279∧0<j)) by omega);(have ek:((k:Int)==1)=false:=by rw [beq_eq_false_iff_ne];omega);subst ga;have N:=hid (show bM s f1 (j+k)=R by rw [←HQ.out f1,if_neg y.out]);clear hq;(go_wp2_with fail);refine (M.out _ J).mono ?_;rintro e w3 ⟨rfl,D⟩;have J3:=hid ((D.block w.heap.size j0).trans J1.out);(go_wp2_with fail);go_roundg (s.size-(j+k))
      case measure=>omega
      case rel=>exact ⟨j+k,f1,by omega,Nat.le_refl _,J3.out,J.trans (D.mono J.size),N.out,by omega⟩
    ·by_cases z:r=65279
     ·by_cases gu:0<j
      ·have y:=hid (show (r=0∨(r=65533∧k=1)∨(r=65279∧0<j)) by omega);(have ej:decide ((0:Int)<(j:Int))=true:=by rw [decide_eq_true_iff];omega);subst z;have N:=hid (show R=some j by rw [←HQ.out f1,if_pos y.out]);clear hq;(go_wp2_with fail);refine (M.out _ J).mono ?_;rintro e w3 ⟨rfl,D⟩;(go_wp2_with fail);go_ret;exact ⟨by rw [N.out];rfl,J.trans (D.mono J.size)⟩
      ·have y:=hid (show ¬ (r=0∨(r=65533∧k=1)∨(r=65279∧0<j)) by omega);(have ej:decide ((0:Int)<(j:Int))=false:=by rw [decide_eq_false_iff_not];omega);subst z;have N:=hid (show bM s f1 (j+k)=R by rw [←HQ.out f1,if_neg y.out]);clear hq;(go_wp2_with fail);refine (M.out _ J).mono ?_;rintro e w3 ⟨rfl,D⟩;have J3:=hid ((D.block w.heap.size j0).trans J1.out);(go_wp2_with fail);go_roundg (s.size-(j+k))
       case measure=>omega
       case rel=>exact ⟨j+k,f1,by omega,Nat.le_refl _,J3.out,J.trans (D.mono J.size),N.out,by omega⟩
     ·have y:=hid (show ¬ (r=0∨(r=65533∧k=1)∨(r=65279∧0<j)) by omega);(have e0:((r:Int)==0)=false:=by rw [beq_eq_false_iff_ne];omega);(have gk:((r:Int)==65533)=false:=by rw [beq_eq_false_iff_ne];omega);(have gl:((r:Int)==65279)=false:=by rw [beq_eq_false_iff_ne];omega);clear ge ga z;have N:=hid (show bM s f1 (j+k)=R by rw [←HQ.out f1,if_neg y.out]);clear hq;(go_wp2_with fail);refine (M.out _ J).mono ?_;rintro e w3 ⟨rfl,D⟩;have J3:=hid ((D.block w.heap.size j0).trans J1.out);(go_wp2_with fail);go_roundg (s.size-(j+k))
      case measure=>omega
      case rel=>exact ⟨j+k,f1,by omega,Nat.le_refl _,J3.out,J.trans (D.mono J.size),N.out,by omega⟩
  ·have gq:=fun ty=>run_next_end_at (P:=Tryz.prog) wr w.heap.size s j ty gd.out I;have N:=hid (show R=none by
    rw [←gb.out];cases f with
    | zero=>rfl
    | succ f=>rw [bM,if_neg I])
   (go_wp2_with fail);go_ret;exact ⟨by rw [N.out];rfl,U⟩
theorem DC (w:World) :
  Calls Tryz.prog 71 #[.slice none 0 0] w fun e w'=>e=.returned (.int .i64 (-1))∧Below w.heap.size w w':=by have I:=run_convert_nil_bytes (P:=Tryz.prog) w 27 9 5 0 Tryz.underlying27 Tryz.underlying5 Tryz.underlying9;have hit:=World.iter_heap w ⟨#[]⟩ 0;have D:=fun ty=>run_next_end_at (P:=Tryz.prog) (w.iter ⟨#[]⟩ 0) w.heap.size ⟨#[]⟩ 0 ty hit (by decide);have J:=hid (show Below w.heap.size w (w.iter ⟨#[]⟩ 0) from (Below.refl w.heap.size w).alloc (Nat.le_refl _) _);clear hit;(go_enter Tryz.func71,Tryz.ntmps71);(go_wp2_with fail);refine wp_loop_rounds 1 ?_;rw [rounds_succ];(go_wp2_with fail);go_ret;exact ⟨rfl,J.out⟩
theorem y6 {w w':World} {g o:Nat} {s:ByteArray} (h:Lib.Bytes w g o s) (D:g<w.heap.size) (hb:Below w.heap.size w w'):Lib.Bytes w' g o s:=
 fun i hi=>(World.cell?_of_block (a:=⟨g,o+i,none⟩) (hb.block g D)).trans (h i hi)
def dr (w:World) (A:Option Addr) (c:Nat) (s:ByteArray):Prop:=
 (A=none∧c=0∧s=⟨#[]⟩)∨∃ g o,A=some ⟨g,o,none⟩∧s.size≤c∧g<w.heap.size∧Lib.Bytes w g o s
theorem dr.below {w w':World} {A:Option Addr} {c:Nat} {s:ByteArray} (h:dr w A c s) (hb:Below w.heap.size w w'):dr w' A c s:=by
 rcases h with h | ⟨g,o,M,J,D,I⟩
 ·exact .inl h
 ·exact .inr ⟨g,o,M,J,Nat.lt_of_lt_of_le D hb.size,y6 I D hb⟩
theorem dr.wrong {w:World} {A:Option Addr} {c:Nat} {s:ByteArray} (h:dr w A c s) (hT:iq w) (D:s.size≤1000000000) :
  Calls Tryz.prog 71 #[.slice A s.size c] w fun e w'=>e=.returned (.int .i64 (mY (dE s)))∧Below w.heap.size w w':=by
 rcases h with ⟨rfl,rfl,rfl⟩ | ⟨g,o,rfl,M,J,I⟩
 ·exact DC w
 ·exact DB g o c s w hT I J M D
theorem dr.conv {w:World} {A:Option Addr} {c:Nat} {s:ByteArray} (h:dr w A c s) :
  (convert 27 9 (.slice A s.size c)).run Tryz.prog w=.ok (.string s) w:=by
 rcases h with ⟨rfl,rfl,rfl⟩ | ⟨g,o,rfl,J,I,D⟩
 ·exact run_convert_nil_bytes (P:=Tryz.prog) w 27 9 5 0 Tryz.underlying27 Tryz.underlying5 Tryz.underlying9
 ·exact run_convert_whole (P:=Tryz.prog) w 27 5 9 Tryz.underlying27 Tryz.underlying5 Tryz.underlying9 g o s D c
theorem G7 (v:Value) (w:World):(Instr.typeAssert (.iface 83 v) 20 83 true).run Tryz.prog w=.ok (.tuple #[v,.bool true]) w:=by kernel_rfl
attribute [local go_sem] G7
theorem BV (B P Q R:Nat) (p:Nat) (vP vQ vR:Value) (w:World) (z:aj w P 63 #[vP]) (hQ:aj w Q 3 #[vQ]) (hR:aj w R 29 #[vR]) (gd:B≤P) (gb:B≤Q) (ga:B≤R) (O:P≠Q) (N:P≠R) (M:Q≠R) :
  CallsD Tryz.prog 72 #[.pointer (some ⟨P,0,none⟩),.pointer (some ⟨Q,0,none⟩),.pointer (some ⟨R,0,none⟩)] (.panicking [{ v:=.iface 83 (.agg #[.int .i64 (p:Int)]),recovered:=false }]) w
   fun e u' w'=>e=.returned (.tuple #[])∧u'=.panicking [{ v:=.iface 83 (.agg #[.int .i64 (p:Int)]),recovered:=true }] ∧
    aj w' P 63 #[.pointer none]∧aj w' Q 3 #[.int .i64 (p:Int)]∧aj w' R 29 #[.int .i64 3]∧Below B w w':=by refine callsD_of_wpS Tryz.func72 rfl fun c₀ cs hu=>?_;apply wpS_seq;apply wpS_region;simp [wpOpsS,go_sem,recoverD,hu,Tryz.ntmps72,Exit.thenS];apply wpS_seq;apply wpS_region;simp [wpOpsS,go_sem,Exit.thenS];refine wpS_cond (t:=true) (by simp [Act.eval,Array.replicate]) ?_;simp only [if_true];refine wpS_of_wp ?_;change Code.wp _ _ _ { tmps:=#[.pointer (some ⟨P,0,none⟩),.pointer (some ⟨Q,0,none⟩),.pointer (some ⟨R,0,none⟩),.iface 83 (.agg #[.int .i64 (p:Int)]),undef,undef,.iface 83 (.agg #[.int .i64 (p:Int)]),.iface 83 (.agg #[.int .i64 (p:Int)]),.bool true,undef,undef,undef,undef,undef,undef,undef,undef,undef,undef],defers:=[] } _;have J:=z.alloc (.cells #[.int .i64 (p:Int)] 83);have I:=hQ.alloc (.cells #[.int .i64 (p:Int)] 83);have D:=hR.alloc (.cells #[.int .i64 (p:Int)] 83);have U:=aj.new w 83 #[.int .i64 (p:Int)];have ge:Below B w (w.alloc (.cells #[.int .i64 (p:Int)] 83)):=(Below.refl _ _).alloc (by have:=z.lt;omega) _;have gi:=z.lt;have gh:=hQ.lt;have gg:=hR.lt;(go_upto_region 5 with fail);generalize w.alloc (.cells #[.int .i64 (p:Int)] 83)=w1 at *;(have gl:P≠w.heap.size:=by omega);(have gk:Q≠w.heap.size:=by omega);(have gj:R≠w.heap.size:=by omega);generalize w.heap.size=T at *;have x0:=aJ J;have x1:=aJ I;have x2:=aJ D;have x3:=aJ U;have f0:=J.frozen 0;have f1:=I.frozen 0;have f2:=D.frozen 0;go_region;all_goals have y:aj ((((w1.setCell ⟨P,0,none⟩ (.pointer none)).setCell ⟨Q,0,none⟩ (.int .i64 (p:Int))).setCell ⟨R,0,none⟩ (.int .i64 3))).drew P 63 #[.pointer none]:=(((show aj (w1.setCell ⟨P,0,none⟩ (.pointer none)) P 63 #[.pointer none] by simpa using J.set_ 0 (.pointer none)).far (p:=⟨Q,0,none⟩) O (.int .i64 (p:Int))).far (p:=⟨R,0,none⟩) N (.int .i64 3)).drew;have q:aj ((((w1.setCell ⟨P,0,none⟩ (.pointer none)).setCell ⟨Q,0,none⟩ (.int .i64 (p:Int))).setCell ⟨R,0,none⟩ (.int .i64 3))).drew Q 3 #[.int .i64 (p:Int)]:=((show aj ((w1.setCell ⟨P,0,none⟩ (.pointer none)).setCell ⟨Q,0,none⟩ (.int .i64 (p:Int))) Q 3 #[.int .i64 (p:Int)] by simpa using (I.far (p:=⟨P,0,none⟩) O.symm (.pointer none)).set_ 0 (.int .i64 (p:Int))).far (p:=⟨R,0,none⟩) M (.int .i64 3)).drew;have h:aj ((((w1.setCell ⟨P,0,none⟩ (.pointer none)).setCell ⟨Q,0,none⟩ (.int .i64 (p:Int))).setCell ⟨R,0,none⟩ (.int .i64 3))).drew R 29 #[.int .i64 3]:=(show aj (((w1.setCell ⟨P,0,none⟩ (.pointer none)).setCell ⟨Q,0,none⟩ (.int .i64 (p:Int))).setCell ⟨R,0,none⟩ (.int .i64 3)) R 29 #[.int .i64 3] by simpa using ((D.far (p:=⟨P,0,none⟩) N.symm (.pointer none)).far (p:=⟨Q,0,none⟩) M.symm (.int .i64 (p:Int))).set_ 0 (.int .i64 3)).drew;refine ⟨rfl,_,rfl,.tuple #[],?_,rfl,rfl,y,q,h,(((ge.setCell (p:=⟨P,0,none⟩) gd (.pointer none)).setCell (p:=⟨Q,0,none⟩) gb (.int .i64 (p:Int))).setCell (p:=⟨R,0,none⟩) ga (.int .i64 3)).drew⟩;simp [results,Tryz.results72,go_sem]
theorem DI (p q r:Addr) (w:World) :
  CallsD Tryz.prog 72 #[.pointer (some p),.pointer (some q),.pointer (some r)] .returning w fun e u' w'=>e=.returned (.tuple #[])∧u'=.returning∧w'=w:=by
 refine callsD_of_wpS Tryz.func72 rfl fun c₀ cs D=>?_;apply wpS_seq;apply wpS_region;simp [wpOpsS,go_sem,recoverD,D,Tryz.ntmps72,Exit.thenS];apply wpS_seq;apply wpS_region;simp [wpOpsS,go_sem,Exit.thenS];refine wpS_cond (t:=false) (by simp [Act.eval,Array.replicate]) ?_;simp only [Bool.false_eq_true,if_false];refine wpS_of_wp (wp_skip ?_);cases c₀
 simp_all [bodyPostS,results,Tryz.results72]
def I3 (Q:Exit→Act→World→Prop):Exit→Act→World→Prop:=fun x a w=>match x with
 | .normal=>Q .normal a w
 | _=>False
theorem EZ {P:Program} {c:Code} {Q:Exit→Act→World→Prop} {a:Act} {w:World} (h:c.wp P (I3 Q) a w):c.wp P Q a w:=
 Code.wp_mono (fun e a w h=>by
  cases e with
  | normal=>exact h
  | _=>exact h.elim) h
def nR (s0:ByteArray) (w:World) (r:iY) (e:Ending) (w':World):Prop:=
 match r with
 | .toks L=>∃ X i,e=.returned (.tuple #[.pointer (some ⟨X,0,none⟩),.int .i64 0,.int .i64 0])∧fd w' X s0 i L∧w.heap.size≤X∧Below w.heap.size w w'
 | .err p n=>e=.returned (.tuple #[.pointer none,.int .i64 p,.int .i64 n])∧Below w.heap.size w w'
theorem E0 (A:Option Addr) (c:Nat) (s:ByteArray) (w:World) (hv:dr w A c s) (hT:iq w) (hm:s.size≤1000000000) :
  Calls Tryz.prog 43 #[.slice A s.size c] w (nR s w (cr s)):=by
 have h8:∀ (fn:Fn) (first cap:Array Value) (w:World),(Instr.makeFunc fn first cap).run Tryz.prog w=.ok (.func fn first cap) w:=fun _ _ _ _=>rfl;have gh:Below w.heap.size w (((w.alloc (.cells #[.pointer none] 63)).alloc (.cells #[.int .i64 0] 3)).alloc (.cells #[.int .i64 0] 29)):=by (repeat' (first | with_reducible exact Below.refl _ _ | with_reducible refine Below.alloc ?_ ?_ _ | with_reducible refine Below.setCell ?_ ?_ _ | with_reducible refine Below.drew ?_ | with_reducible refine al ?_ _ | (simp <;> omega) | omega))
 have gq:aj (((w.alloc (.cells #[.pointer none] 63)).alloc (.cells #[.int .i64 0] 3)).alloc (.cells #[.int .i64 0] 29)) w.heap.size 63 #[.pointer none]:=((aj.new w _ _).alloc _).alloc _;have gp:aj (((w.alloc (.cells #[.pointer none] 63)).alloc (.cells #[.int .i64 0] 3)).alloc (.cells #[.int .i64 0] 29)) (w.heap.size+1) 3 #[.int .i64 0]:=(aj.new_at (by simp) _ _).alloc _;have gm:aj (((w.alloc (.cells #[.pointer none] 63)).alloc (.cells #[.int .i64 0] 3)).alloc (.cells #[.int .i64 0] 29)) (w.heap.size+2) 29 #[.int .i64 0]:=aj.new_at (by simp) _ _;have HW:=hid (fun w' (ga:Below w.heap.size w w')=>(hv.below ga).wrong (hT.below ga) hm);have hn:=hid (fun w' (ga:Below w.heap.size w w')=>(hv.below ga).conv);have HT:=hid hT;generalize hO:cr s=O at *;have HO:=hid hO;clear hT hv hO;by_cases I:65536<s.size
 ·(have hk:decide ((65536:Int)<(s.size:Int))=true:=by rw [decide_eq_true_iff];omega);have hg:=hid (show O=.err 65536 12 by rw [←HO.out,cr,if_pos I]);have x0:=aJ gq;have y0:=aJ gp;have z0:=aJ gm;have xf:=gq.frozen 0;have yf:=gp.frozen 0;have zf:=gm.frozen 0;clear I;(go_enter_defers Tryz.func43,Tryz.ntmps43);(go_wp2_with fail);rw [hg.out];clear x0 y0 z0 xf yf zf;simp [bodyPostD,Leaves,results,Tryz.results43,go_sem,nR];(repeat' (first | with_reducible exact Below.refl _ _ | with_reducible refine Below.alloc ?_ ?_ _ | with_reducible refine Below.setCell ?_ ?_ _ | with_reducible refine Below.drew ?_ | with_reducible refine al ?_ _ | (simp <;> omega) | omega))
 (have hj:s.size≤65536:=by omega);(have hk:decide ((65536:Int)<(s.size:Int))=false:=by rw [decide_eq_false_iff_not];omega);cases gk:dE s with
 | some p=>have hg:=hid (show O=.err (p:Int) 2 by rw [←HO.out,cr,if_neg I,gk]);rw [gk] at HW;(have je:decide ((0:Int)≤(p:Int))=true:=by rw [decide_eq_true_iff];omega);clear HO gk I;(go_enter_defers Tryz.func43,Tryz.ntmps43);(go_wp2_with fail);refine (HW.out _ gh).mono ?_;rintro e w1 ⟨rfl,J⟩;unfold mY;(have y:(((w.alloc (.cells #[.pointer none] 63)).alloc (.cells #[.int .i64 0] 3)).alloc (.cells #[.int .i64 0] 29)).heap.size=w.heap.size+3:=by simp);have gd:=gq.below J (by rw [y];omega);have gn:=gp.below J (by rw [y];omega);have gl:=gm.below J (by rw [y];omega);have gy:=gh.trans (J.mono gh.size);have x0:=aJ gd;have y0:=aJ gn;have z0:=aJ gl;have xf:=gd.frozen 0;have yf:=gn.frozen 0;have zf:=gl.frozen 0;clear gq gp gm J gh y;simp only;(go_wp2_with fail);have M:aj (((w1.setCell ⟨w.heap.size,0,none⟩ (.pointer none)).setCell ⟨w.heap.size+1,0,none⟩ (.int .i64 (p:Int))).setCell ⟨w.heap.size+1+1,0,none⟩ (.int .i64 2)) w.heap.size 63 #[.pointer none]:=((show aj (w1.setCell ⟨w.heap.size,0,none⟩ (.pointer none)) w.heap.size 63 #[.pointer none] by simpa using gd.set_ 0 (.pointer none)).far (p:=⟨w.heap.size+1,0,none⟩) (by show w.heap.size≠w.heap.size+1;omega) (.int .i64 (p:Int))).far (p:=⟨w.heap.size+1+1,0,none⟩) (by show w.heap.size≠w.heap.size+1+1;omega) (.int .i64 2);have U:aj (((w1.setCell ⟨w.heap.size,0,none⟩ (.pointer none)).setCell ⟨w.heap.size+1,0,none⟩ (.int .i64 (p:Int))).setCell ⟨w.heap.size+1+1,0,none⟩ (.int .i64 2)) (w.heap.size+1) 3 #[.int .i64 (p:Int)]:=(show aj ((w1.setCell ⟨w.heap.size,0,none⟩ (.pointer none)).setCell ⟨w.heap.size+1,0,none⟩ (.int .i64 (p:Int))) (w.heap.size+1) 3 #[.int .i64 (p:Int)] by simpa using (gn.far (p:=⟨w.heap.size,0,none⟩) (by show w.heap.size+1≠w.heap.size;omega) (.pointer none)).set_ 0 (.int .i64 (p:Int))).far (p:=⟨w.heap.size+1+1,0,none⟩) (by show w.heap.size+1≠w.heap.size+1+1;omega) (.int .i64 2);(have N:aj (((w1.setCell ⟨w.heap.size,0,none⟩ (.pointer none)).setCell ⟨w.heap.size+1,0,none⟩ (.int .i64 (p:Int))).setCell ⟨w.heap.size+1+1,0,none⟩ (.int .i64 2)) (w.heap.size+2) 29 #[.int .i64 2]:=by simpa using ((gl.far (p:=⟨w.heap.size,0,none⟩) (by show w.heap.size+2≠w.heap.size;omega) (.pointer none)).far (p:=⟨w.heap.size+1,0,none⟩) (by show w.heap.size+2≠w.heap.size+1;omega) (.int .i64 (p:Int))).set_ 0 (.int .i64 2));have q:Below w.heap.size w (((w1.setCell ⟨w.heap.size,0,none⟩ (.pointer none)).setCell ⟨w.heap.size+1,0,none⟩ (.int .i64 (p:Int))).setCell ⟨w.heap.size+1+1,0,none⟩ (.int .i64 2)):=((gy.setCell (p:=⟨w.heap.size,0,none⟩) (Nat.le_refl _) _).setCell (p:=⟨w.heap.size+1,0,none⟩) (Nat.le_succ _) _).setCell (p:=⟨w.heap.size+1+1,0,none⟩) (show w.heap.size≤w.heap.size+1+1 by omega) _;generalize ((w1.setCell ⟨w.heap.size,0,none⟩ (.pointer none)).setCell ⟨w.heap.size+1,0,none⟩ (.int .i64 (p:Int))).setCell ⟨w.heap.size+1+1,0,none⟩ (.int .i64 2)=w2 at *;clear x0 y0 z0 xf yf zf;have z0:=aJ M;have z1:=aJ U;have z2:w2.cell? ⟨w.heap.size+1+1,0,none⟩=some (.int .i64 2):=aJ N;rw [hg.out];simp [bodyPostD,Leaves,results,Tryz.results43,go_sem,z0,z1,z2,nR];exact q
 | none=>
 have HS:=hid (show nQ (aU s (s.size+1) 0 [])=O by rw [←HO.out,cr,if_neg I,gk]);rw [gk] at HW;clear HO gk I;(go_enter_defers Tryz.func43,Tryz.ntmps43);(go_wp2_with fail);refine (HW.out _ gh).mono ?_;rintro e w1 ⟨rfl,J⟩;unfold mY;(have y:(((w.alloc (.cells #[.pointer none] 63)).alloc (.cells #[.int .i64 0] 3)).alloc (.cells #[.int .i64 0] 29)).heap.size=w.heap.size+3:=by simp);have gd:=gq.below J (by rw [y];omega);have gn:=gp.below J (by rw [y];omega);have gl:=gm.below J (by rw [y];omega);have ho:=J.size;rw [y] at ho;have gy:=gh.trans (J.mono gh.size);clear gq gp gm J gh y;have hq:=hn.out _ gy;have x0:=aJ (gd.alloc (.cells #[.string s,.int .i64 0,.slice none 0 0,.slice none 0 0] 67));have xf:=(gd.alloc (.cells #[.string s,.int .i64 0,.slice none 0 0,.slice none 0 0] 67)).frozen 0;(go_wp2_with fail);(have M:aj ((w1.alloc (.cells #[.string s,.int .i64 0,.slice none 0 0,.slice none 0 0] 67)).setCell ⟨w.heap.size,0,none⟩ (.pointer (some ⟨w1.heap.size,0,none⟩))) w.heap.size 63 #[.pointer (some ⟨w1.heap.size,0,none⟩)]:=by simpa using (gd.alloc _).set_ 0 _);have U:aj ((w1.alloc (.cells #[.string s,.int .i64 0,.slice none 0 0,.slice none 0 0] 67)).setCell ⟨w.heap.size,0,none⟩ (.pointer (some ⟨w1.heap.size,0,none⟩))) (w.heap.size+1) 3 #[.int .i64 0]:=(gn.alloc _).far (p:=⟨w.heap.size,0,none⟩) (by show w.heap.size+1≠w.heap.size;omega) _;have N:aj ((w1.alloc (.cells #[.string s,.int .i64 0,.slice none 0 0,.slice none 0 0] 67)).setCell ⟨w.heap.size,0,none⟩ (.pointer (some ⟨w1.heap.size,0,none⟩))) (w.heap.size+2) 29 #[.int .i64 0]:=(gl.alloc _).far (p:=⟨w.heap.size,0,none⟩) (by show w.heap.size+2≠w.heap.size;omega) _;have q:Below w.heap.size w ((w1.alloc (.cells #[.string s,.int .i64 0,.slice none 0 0,.slice none 0 0] 67)).setCell ⟨w.heap.size,0,none⟩ (.pointer (some ⟨w1.heap.size,0,none⟩))):=(gy.alloc (by omega) _).setCell (Nat.le_refl _) _;have g1:fd ((w1.alloc (.cells #[.string s,.int .i64 0,.slice none 0 0,.slice none 0 0] 67)).setCell ⟨w.heap.size,0,none⟩ (.pointer (some ⟨w1.heap.size,0,none⟩))) w1.heap.size s 0 []:=
  ⟨⟨.slice none 0 0,.slice none 0 0,[],(aj.new w1 _ _).far (p:=⟨w.heap.size,0,none⟩) (by show w1.heap.size≠w.heap.size;omega) _,io.nil _ _,io.nil _ _,(fun g h=>by cases h),Nat.le_refl _⟩,Nat.zero_le _,hj,by simp⟩
 generalize (w1.alloc (.cells #[.string s,.int .i64 0,.slice none 0 0,.slice none 0 0] 67)).setCell ⟨w.heap.size,0,none⟩ (.pointer (some ⟨w1.heap.size,0,none⟩))=w2 at *;generalize w1.heap.size=X at *;clear gd gn gl gy x0 xf hq hn HW;go_loopg [28] s.size (fun gg _ wr=>∃ (i f:Nat) (l:List bE),fd wr X s i l∧aj wr w.heap.size 63 #[.pointer (some ⟨X,0,none⟩)]∧aj wr (w.heap.size+1) 3 #[.int .i64 0]∧aj wr (w.heap.size+2) 29 #[.int .i64 0]∧Below w.heap.size w wr ∧
  nQ (aU s f i l)=O∧fU i l∧s.size-i+1≤f∧s.size-i≤gg)
 case atStart=>exact ⟨0,s.size+1,[],g1,M,U,N,q,HS.out,⟨Nat.le_refl _,fun t h=>by cases h⟩,by omega,by omega⟩
 case round=>
  clear g1 M U N q;obtain ⟨i,f,l,g0,M,U,N,q,gj,z,hf,jd⟩:=hrel;have ja:=g0.le;obtain ⟨lv,nv,ns,g9⟩:=g0.out;obtain ⟨x0,x1,x2,x3,-,-,-,-⟩:=ac g9.blk;have y0:=aJ M;obtain ⟨f1,rfl⟩:∃ f1,f=f1+1:=⟨f-1,by omega⟩;unfold aU at gj;by_cases hi:i<s.size
  ·rw [if_pos hi] at gj;(have hp:(i:Int)<(s.size:Int):=by omega);have g3:=hid gj;have g2:=hid (fun w' (ga:Below wr.heap.size wr w') (g5:Below w.heap.size w w')=>BU X s i l w' (g0.below ga) (HT.out.below g5).tab hi z);have gz:=hid (lG s i l hj hi z);clear gj g9 z;cases gi:bC s i l with
   | go j l'=>
    obtain ⟨jc,jb,gr⟩:=gz.out j l' gi;have HF:=hid (show nQ (aU s f1 j l')=O by rw [←g3.out,gi]);rw [gi] at g2;have h6:=hid gr;clear gi g3 gz gr;(go_wp2_with fail);go_quiet (fail);have gs:=al (Below.refl wr.heap.size wr) nq;have ge:=al q nq;have gb:=M.drewN nq;have gw:=U.drewN nq;have gu:=N.drewN nq;have y3:=aJ gb;generalize wr.drewN nq=w3 at *;clear x0 x1 x2 x3 y0 M U N q;(go_wp2_with fail);refine (g2.out _ gs ge).mono ?_;rintro e w4 ⟨rfl,g4,D⟩;(go_wp2_with fail);go_roundg (s.size-j)
    case measure=>omega
    case rel=>exact ⟨j,f1,l',g4,gb.below D (by omega),gw.below D (by omega),gu.below D (by omega),ge.trans (D.mono (by omega)),HF.out,h6.out,by omega,Nat.le_refl _⟩
   | bad p=>have HF:=hid (show O=.err (p:Int) 3 by rw [←g3.out,gi];rfl);rw [gi] at g2;clear gi g3 gz;(go_wp2_with fail);go_quiet (fail);have gs:=al (Below.refl wr.heap.size wr) nq;have ge:=al q nq;have gb:=M.drewN nq;have gw:=U.drewN nq;have gu:=N.drewN nq;have y3:=aJ gb;generalize wr.drewN nq=w3 at *;clear x0 x1 x2 x3 y0 M U N q;(go_wp2_with fail);refine (g2.out _ gs ge).mono ?_;rintro e w4 ⟨rfl,D⟩;have gx:=gb.below D (by omega);have gv:=gw.below D (by omega);have gt:=gu.below D (by omega);have he:=ge.trans (D.mono (by omega));unfold ec;refine leaves_cons (f:=72) (args:=#[.pointer (some ⟨w.heap.size,0,none⟩),.pointer (some ⟨w.heap.size+1,0,none⟩),.pointer (some ⟨w.heap.size+1+1,0,none⟩)]) (by simp) (by simp [go_sem]) ?_;refine (BV w.heap.size w.heap.size (w.heap.size+1) (w.heap.size+2) p _ _ _ w4 gx gv gt (Nat.le_refl _) (by omega) (by omega) (by omega) (by omega) (by omega)).mono ?_;rintro e u' w5 ⟨rfl,rfl,g8,g7,g6,ha⟩;have z0:=aJ g8;have z1:=aJ g7;have z2:w5.cell? ⟨w.heap.size+1+1,0,none⟩=some (.int .i64 3):=aJ g6;rw [HF.out];simp [Leaves,settle,results,Tryz.results43,go_sem,z0,z1,z2,nR];exact he.trans ha
  ·rw [if_neg hi] at gj;have HF:=hid (show O=.toks (cC l (s.size:Int)) from gj.symm);(have hl:l.length+1≤65537:=by have:=z.1;omega);(have hp:¬ (i:Int)<(s.size:Int):=by omega);have hh:=z.2;have h5:=hid (fun w' (ga:Below wr.heap.size wr w') (g5:Below w.heap.size w w')=>sP X s i l (s.size:Int) hl w' (g0.below ga) (HT.out.below g5).tab hh);clear gj g9 hh z;(go_wp2_with fail);go_quiet (fail);have gs:=al (Below.refl wr.heap.size wr) nq;have ge:=al q nq;have gb:=M.drewN nq;have gw:=U.drewN nq;have gu:=N.drewN nq;have y3:=aJ gb;have h7:(wr.drewN nq).cell? ⟨X,0,none⟩=some (.string s):=x0;generalize wr.drewN nq=w3 at *;clear x0 x1 x2 x3 y0 M U N q;(go_wp2_with fail);refine EZ ?_;go_region_law (first
    | (go_simp;go_at_call 74;refine (h5.out _ gs.drew ge.drew).mono ?_;rintro e w4 ⟨rfl,g4,D⟩;have gx:=gb.drew.below D (by omega);have y4:=aJ gx))
   all_goals unfold I3;have gv:=gw.drew.below D (by omega);have gt:=gu.drew.below D (by omega);have he:=ge.drew.trans (D.mono (by omega));have yf:=gx.frozen 0;have u4:=aJ gv;have uf:=gv.frozen 0;have v4:=aJ gt;have vf:=gt.frozen 0;(go_wp2_with fail);(have g8:aj (w4.setCell ⟨w.heap.size,0,none⟩ (.pointer (some ⟨X,0,none⟩))) w.heap.size 63 #[.pointer (some ⟨X,0,none⟩)]:=by simpa using gx.set_ 0 (.pointer (some ⟨X,0,none⟩)));have g7:=gv.far (p:=⟨w.heap.size,0,none⟩) (by show w.heap.size+1≠w.heap.size;omega) (.pointer (some ⟨X,0,none⟩));have g6:=gt.far (p:=⟨w.heap.size,0,none⟩) (by show w.heap.size+2≠w.heap.size;omega) (.pointer (some ⟨X,0,none⟩));have h2:∀ b,X≤b→(w4.setCell ⟨w.heap.size,0,none⟩ (.pointer (some ⟨X,0,none⟩))).heap[b]? = w4.heap[b]? := fun b hb=>Below.heap_setCell w4 ⟨w.heap.size,0,none⟩ _ b (by show b≠w.heap.size;omega);have ha:=he.setCell (p:=⟨w.heap.size,0,none⟩) (Nat.le_refl _) (.pointer (some ⟨X,0,none⟩));generalize w4.setCell ⟨w.heap.size,0,none⟩ (.pointer (some ⟨X,0,none⟩))=w5 at *;(have hw:aj (w5.setCell ⟨w.heap.size+1,0,none⟩ (.int .i64 0)) (w.heap.size+1) 3 #[.int .i64 0]:=by simpa using g7.set_ 0 (.int .i64 0));have hz:=g8.far (p:=⟨w.heap.size+1,0,none⟩) (by show w.heap.size≠w.heap.size+1;omega) (.int .i64 0);have ht:=g6.far (p:=⟨w.heap.size+1,0,none⟩) (by show w.heap.size+2≠w.heap.size+1;omega) (.int .i64 0);have h1:∀ b,X≤b→(w5.setCell ⟨w.heap.size+1,0,none⟩ (.int .i64 0)).heap[b]? = w4.heap[b]? := fun b hb=>(Below.heap_setCell w5 ⟨w.heap.size+1,0,none⟩ _ b (by show b≠w.heap.size+1;omega)).trans (h2 b hb);have h4:=ha.setCell (p:=⟨w.heap.size+1,0,none⟩) (Nat.le_succ _) (.int .i64 0);generalize w5.setCell ⟨w.heap.size+1,0,none⟩ (.int .i64 0)=w6 at *;(have hr:aj (w6.setCell ⟨w.heap.size+1+1,0,none⟩ (.int .i64 0)) (w.heap.size+2) 29 #[.int .i64 0]:=by simpa using ht.set_ 0 (.int .i64 0));have hy:=hz.far (p:=⟨w.heap.size+1+1,0,none⟩) (by show w.heap.size≠w.heap.size+1+1;omega) (.int .i64 0);have hu:=hw.far (p:=⟨w.heap.size+1+1,0,none⟩) (by show w.heap.size+1≠w.heap.size+1+1;omega) (.int .i64 0);have h0:∀ b,X≤b→(w6.setCell ⟨w.heap.size+1+1,0,none⟩ (.int .i64 0)).heap[b]? = w4.heap[b]? := fun b hb=>(Below.heap_setCell w6 ⟨w.heap.size+1+1,0,none⟩ _ b (by show b≠w.heap.size+1+1;omega)).trans (h1 b hb);have h3:=h4.setCell (p:=⟨w.heap.size+1+1,0,none⟩) (show w.heap.size≤w.heap.size+1+1 by omega) (.int .i64 0);generalize w6.setCell ⟨w.heap.size+1+1,0,none⟩ (.int .i64 0)=w7 at *;have g1:=g4.keep h0;refine leaves_cons (f:=72) (args:=#[.pointer (some ⟨w.heap.size,0,none⟩),.pointer (some ⟨w.heap.size+1,0,none⟩),.pointer (some ⟨w.heap.size+1+1,0,none⟩)]) (by simp) (by simp [go_sem]) ?_;refine (DI _ _ _ _).mono ?_;rintro e u' w8 ⟨rfl,rfl,rfl⟩;have z0:=aJ hy;have z1:=aJ hu;have z2:w8.cell? ⟨w.heap.size+1+1,0,none⟩=some (.int .i64 0):=aJ hr;clear y4 u4 v4 yf uf vf;rw [HF.out];simp [Leaves,settle,results,Tryz.results43,go_sem,z0,z1,z2,nR];exact ⟨⟨i,g1⟩,by omega,h3⟩
theorem io.reads {B:Nat} {w:World} {v:Value} {l:List bE} (h:io B w v l):∃ A c,v=.slice A l.length c∧l.length≤c∧ce w w.heap.size 3 A l.length (l.flatMap mx):=by
 obtain ⟨A,c,I,J⟩:=h.form;refine ⟨A,c,I,J,?_⟩;by_cases U:l.length=0
 ·exact ⟨by rw [sG eg],fun N=>by omega⟩
 ·obtain ⟨g,c',D,O,M⟩:=World.ownsRow.form h (by omega);rw [I] at D;injection D with e1 e2 e3;subst e1 e3;exact ce.of_own (I▸h:w.ownsRow B _ 3 (.slice (some ⟨g,0,none⟩) l.length c) l.length (l.flatMap mx))
theorem DJ {w:World} {A:Option Addr} {B n R:Nat} {xs:List Value} (h:ce w B 3 A n xs) (N:B≤R):ez (· < R) w 3 A n xs:=by
 refine ⟨h.1,fun J=>?_⟩;obtain ⟨ad,O,hb,hc⟩:=h.2 J;(have M:0<xs.length:=by rw [h.1];omega);have U:=hc 0 xs[0] (List.getElem?_eq_getElem M);have D:=pq (show w.cell? ad=some xs[0] from U);obtain ⟨b,o,s⟩:=ad;(have I:s=none:=by simpa using D);subst I;refine ⟨b,o,O,Nat.lt_of_lt_of_le hb N,fun j u hu=>?_⟩;have:=hc j u hu
 rwa [nD] at this
theorem rA {s:ByteArray} {p n:Int} (h:cr s=.err p n):n=12∨n=2∨n=3:=by
 unfold cr at h;split at h
 ·injection h with _ h;exact .inl h.symm
 ·split at h
  ·injection h with _ h;exact .inr (.inl h.symm)
  ·cases hs:aU s (s.size+1) 0 [] with
   | ok l=>rw [hs] at h;cases h
   | bad q=>rw [hs] at h;injection h with _ h;exact .inr (.inr h.symm)
def G8 (w:World) (r:iY) (e:Ending) (w':World):Prop:=
 match r with
 | .toks L=>∃ A cp,e=.returned (.tuple #[.slice A L.length cp,.int .i64 0,.int .i64 0])∧L.length≤cp∧L.length≤65537∧ce w' w'.heap.size 3 A L.length (L.flatMap mx)∧Below w.heap.size w w'
 | .err p n=>e=.returned (.tuple #[.slice none 0 0,.int .i64 p,.int .i64 n])∧Below w.heap.size w w'
theorem rU (A:Option Addr) (c:Nat) (s:ByteArray) (w:World) (q:dr w A c s) (hT:iq w) (M:s.size≤1000000000) :
  Calls Tryz.prog 19 #[.slice A s.size c] w (G8 w (cr s)):=by
 have O:=hid (E0 A c s w q hT M);clear q hT;cases N:cr s with
 | toks L=>rw [N] at O;clear N;(go_enter Tryz.func19,Tryz.ntmps19);(go_wp2_with fail);refine O.out.mono ?_;rintro e w1 ⟨X,i,rfl,D,hX,h⟩;obtain ⟨lv,nv,ns,I⟩:=D.out;obtain ⟨x0,x1,x2,x3,-,-,-,-⟩:=ac I.blk;obtain ⟨A',cp,rfl,U,y⟩:=I.toks.reads;have J:=D.few;clear D I O;(go_wp2_with fail);go_ret3;exact ⟨A',cp,rfl,U,J,y,h⟩
 | err p n=>have hn:=rA N;(have z:(n != 0)=true:=by rw [bne_iff_ne];omega);rw [N] at O;clear N hn;(go_enter Tryz.func19,Tryz.ntmps19);(go_wp2_with fail);refine O.out.mono ?_;rintro e w1 ⟨rfl,h⟩;(go_wp2_with fail);go_ret3;exact ⟨rfl,h⟩
theorem pE (s:ByteArray) (N:s.size≤65536):∀ (f i:Nat) (l:List bE) (L:List bE),aU s f i l=.ok L→fU i l→i≤s.size→∀ t∈L,t.text.size≤65536
 | 0,_,_,_,h,_,_=>by cases h
 | f+1,i,l,L,h,D,y=>by
  rw [aU] at h;by_cases M:i<s.size
  ·rw [if_pos M] at h;cases J:bC s i l with
   | go j l'=>rw [J] at h;obtain ⟨_,U,O⟩:=lG s i l N M D j l' J;exact pE s N f j l' L h O U
   | bad q=>rw [J] at h;cases h
  ·rw [if_neg M] at h;injection h with h;subst h;intro t I;unfold cC at I;split at I
   ·rcases List.mem_append.1 I with I | I
    ·exact D.2 t I
    ·(obtain rfl:t=_:=by simpa using I);show (⟨#[10]⟩:BA).size≤65536;decide
   ·exact D.2 t I
theorem rV {s:ByteArray} {L:List bE} (h:cr s=.toks L):∀ t∈L,t.text.size≤65536:=by
 unfold cr at h;split at h
 ·cases h
 ·split at h
  ·cases h
  ·cases hs:aU s (s.size+1) 0 [] with
   | ok l=>rw [hs] at h;injection h with h;subst h;exact pE s (by omega) _ _ _ _ hs ⟨Nat.le_refl _,fun t h=>by cases h⟩ (Nat.zero_le _)
   | bad q=>rw [hs] at h;cases h
end
end Go.Proofs.YtiebcdeafofgdaaGreatDoor
