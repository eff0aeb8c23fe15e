/-
  Parts of the proof: MtagG MtagH Msort Miter Msplit Titer Tsize. By an AI agent.
-/
import Derived.Test.YtmmjgmcfdnkomaaGreatDoorL07
import Derived.Test.YtmmjgmcfdnkomaaGreatDoorL05
import Derived.Test.YtmmjgmcfdnkomaaGreatDoorL04
import Derived.Deep.LoopGhost
import Derived.Deep.DrawnRows
import Derived.Sort.Walk0
import Derived.Sort.Grow
import Derived.Deep.DeepMust
import Derived.Sort.LoopGhostIn
import Derived.Sort.CutIn
import Derived.Sort.BigQuietIn
import Derived.RangeFuncNested
import Derived.RangeFuncBound
import Derived.RangeFuncCalls
import Derived.RangeFuncLeaves
import Derived.RangeFuncFrom
import Derived.RangeFuncKeeps
import Derived.Shelf.Abstract
import Derived.Shelf.RegionOpen
import Derived.WalkKit
import Derived.OwnWalkIn
import Derived.TacticsInMore
import Derived.LoopNIn
import Derived.LoopIn
set_option maxRecDepth 100000
set_option maxHeartbeats 8000000
namespace Go.Proofs.YtmmjgmcfdnkomaaGreatDoor
section
open Go.RowKit Go.Lib Go.Proofs
attribute [local go_sem ↓] Go.wp_at_zero Go.wp_at_succ
def mt:ByteArray:=⟨#[47,47,103,111,58,98,117,105,108,100,32,103,111,49,46,49,56,10,112,97,99,107,97,103,101,32,109,97,105,110]⟩
def mu:ByteArray:=⟨#[112,97,99,107,97,103,101,32,109,97,105,110]⟩
def uX:List aV × List aV:=([⟨2,(⟨#[112,97,99,107,97,103,101]⟩:BA),18⟩,⟨1,(⟨#[109,97,105,110]⟩:BA),26⟩,⟨6,⟨#[10]⟩,30⟩],[⟨0,(⟨#[47,47,103,111,58,98,117,105,108,100,32,103,111,49,46,49,56]⟩:BA),0⟩])
def uY:List aV × List aV:=([⟨2,(⟨#[112,97,99,107,97,103,101]⟩:BA),0⟩,⟨1,(⟨#[109,97,105,110]⟩:BA),8⟩,⟨6,⟨#[10]⟩,12⟩],[])
theorem mq:fT mt=some uX:=by kernel_rfl
theorem mr:fT mu=some uY:=by kernel_rfl
theorem ik {w:World} {A:Option Addr} {B:Nat} {t:aV} {l:List aV} (h:ae w B 3 A (t::l).length ((t::l).flatMap fI)) :
  ∃ b o,A=some ⟨b,o,none⟩∧b<B∧w.cell? ⟨b,o,none⟩=some (.int .i64 t.kind)∧w.cell? ⟨b,o+1,none⟩=some (.string t.text)∧w.cell? ⟨b,o+2,none⟩=some (.int .i64 t.pos):=by obtain ⟨b,o,I,hb,D⟩:=(lO h (Nat.le_refl B)).2 (by simp);exact ⟨b,o,I,hb,D 0 _ rfl,D 1 _ rfl,D 2 _ rfl⟩
theorem uZ (A:Option Addr) (c:Nat) (w:World) (hv:aL w A c mt) (hT:cI w) :
  Calls Tryz.prog 29 #[.slice A 30 c] w fun e w'=>e=.returned (.tuple #[xE,.bool true,.int .i64 0])∧Below w.heap.size w w':=by
 have M:Below w.heap.size w (w.alloc (.cells #[.string (⟨#[]⟩:BA),.string (⟨#[]⟩:BA),.slice none 0 0] 82)):=bel;have gg:=ac.new w 82 #[.string (⟨#[]⟩:BA),.string (⟨#[]⟩:BA),.slice none 0 0];have H1:=hid (eB A c mt _ (hv.below M) (hT.below M) uX mq);have HV:=hid hv;have HT:=hid hT;clear hv hT;(go_enter Tryz.func29,Tryz.ntmps29);(go_wp2_with fail);refine H1.out.mono ?_;rintro e w1 ⟨A1,c1,rfl,gv,y,u⟩;have gp:=gg.bl u;have gt:=ah M u;obtain ⟨b,o,rfl,gl,x0,x1,x2⟩:=ik y;clear gg u M H1;have r:Below w1.heap.size w1 (w1.alloc (.cells #[.int .i64 2,.string (⟨#[112,97,99,107,97,103,101]⟩:BA),.int .i64 18] 116)):=bel;have ge:=gp.bl r;have N:=ah gt r;have H3:=hid (lP A c mt _ (HV.out.below N) (HT.out.below N) uX mq);clear r;(go_wp2_with fail);refine wp_loop_rounds 2 ?_;rw [rounds_succ];(go_wp2_with fail);refine H3.out.mono ?_;rintro e w3 ⟨A3,c3,rfl,gu,x,q⟩;have gn:=ge.bl q;have gs:=ah N q;obtain ⟨b3,o3,rfl,z,y0,y1,y2⟩:=ik x;clear ge N q H3 x0 x1 x2 y gl;have k:Below w3.heap.size w3 (w3.alloc (.cells #[.int .i64 0,.string (⟨#[47,47,103,111,58,98,117,105,108,100,32,103,111,49,46,49,56]⟩:BA),.int .i64 0] 116)):=bel;have gd:=gn.bl k;have gm:=ac.new w3 116 #[.int .i64 0,.string (⟨#[47,47,103,111,58,98,117,105,108,100,32,103,111,49,46,49,56]⟩:BA),.int .i64 0];have gj:=ah gs k;have H4:=hid (fun W=>show Calls Tryz.prog 43 #[.string (⟨#[47,47,103,111,58,98,117,105,108,100,32,103,111,49,46,49,56]⟩:BA),.string (⟨#[47,47,103,111,58,98,117,105,108,100]⟩:BA)] W (fun e w'=>e=.returned (.tuple #[.string (⟨#[32,103,111,49,46,49,56]⟩:BA),.bool true])∧w'=W) from fO (⟨#[47,47,103,111,58,98,117,105,108,100,32,103,111,49,46,49,56]⟩:BA) (⟨#[47,47,103,111,58,98,117,105,108,100]⟩:BA) W);clear k;(go_wp2_with fail);refine wp_loop_rounds 2 ?_;rw [rounds_succ];(go_wp2_with fail);refine (H4.out _).mono ?_;rintro e w5 ⟨rfl,rfl⟩;(go_wp2_with fail);refine (sP A 30 c 0 (⟨#[47,47,103,111,58,98,117,105,108,100,32,103,111,49,46,49,56]⟩:BA) _).mono ?_;rintro e w6 ⟨rfl,U⟩;have gb:=gd.bl U;have gi:=ah gj U;have H6:=hid (fun W=>show Calls Tryz.prog 54 #[.string (⟨#[32,103,111,49,46,49,56]⟩:BA),.string ⟨#[32,9,13]⟩] W (fun e w'=>e=.returned (.string (⟨#[32,103,111,49,46,49,56]⟩:BA))∧Below W.heap.size W w') from pv (⟨#[32,103,111,49,46,49,56]⟩:BA) ⟨#[32,9,13]⟩ W (by decide) (by decide) (fun j b h=>by
  have K:=List.mem_of_getElem? h;have K:b∈[(32:UInt8),9,13]:=K;rcases List.mem_cons.1 K with rfl | K
  ·decide
  ·rcases List.mem_cons.1 K with rfl | K
   ·decide
   ·rcases List.mem_cons.1 K with rfl | K
    ·decide
    ·cases K))
 clear gd gj U H4 gm y0 y1 y2 x z;(go_wp2_with fail);refine (H6.out _).mono ?_;rintro e w7 ⟨rfl,S⟩;have ga:=gb.bl S;have gh:=ah gi S;clear gb gi S H6;(go_wp2_with fail);refine (rW _).mono ?_;rintro e w8 ⟨rfl,Q⟩;unfold xE;have I:=ga.bl Q;have gr:=ah gh Q;clear ga gh Q;have c0:=(I.cell 0).trans rfl;have c1:=(I.cell 1).trans rfl;have c2:=(I.cell 2).trans rfl;have f0:=I.frozen 0;have f1:=I.frozen 1;have f2:=I.frozen 2;(go_wp2_with fail);have D:=rU I (.string (⟨#[]⟩:BA)) (.string (⟨#[103,111,49,46,49,56]⟩:BA)) (.slice none 0 0);have gq:=rV (b:=w.heap.size) gr (Nat.le_refl _) (.string (⟨#[]⟩:BA)) (.string (⟨#[103,111,49,46,49,56]⟩:BA)) (.slice none 0 0);clear c0 c1 c2 f0 f1 f2;generalize ((w8.setCell ⟨w.heap.size,0,none⟩ (.string (⟨#[]⟩:BA))).setCell ⟨w.heap.size,1,none⟩ (.string (⟨#[103,111,49,46,49,56]⟩:BA))).setCell ⟨w.heap.size,2,none⟩ (.slice none 0 0)=w9 at *;have c0:=(D.cell 0).trans rfl;have c1:=(D.cell 1).trans rfl;have c2:=(D.cell 2).trans rfl;have f0:=D.frozen 0;have f1:=D.frozen 1;have f2:=D.frozen 2;rw [rounds_succ];(go_wp2_with fail);have J:=rU D (.string (⟨#[]⟩:BA)) (.string (⟨#[103,111,49,46,49,56]⟩:BA)) (.slice none 0 0);have gk:=rV (b:=w.heap.size) gq (Nat.le_refl _) (.string (⟨#[]⟩:BA)) (.string (⟨#[103,111,49,46,49,56]⟩:BA)) (.slice none 0 0);generalize ((w9.setCell ⟨w.heap.size,0,none⟩ (.string (⟨#[]⟩:BA))).setCell ⟨w.heap.size,1,none⟩ (.string (⟨#[103,111,49,46,49,56]⟩:BA))).setCell ⟨w.heap.size,2,none⟩ (.slice none 0 0)=O at *;have z0:O.cell? ⟨w.heap.size,0,none⟩=some (.string (⟨#[]⟩:BA)):=(J.cell 0).trans rfl;have z1:O.cell? ⟨w.heap.size,1,none⟩=some (.string (⟨#[103,111,49,46,49,56]⟩:BA)):=(J.cell 1).trans rfl;have z2:O.cell? ⟨w.heap.size,2,none⟩=some (.slice none 0 0):=(J.cell 2).trans rfl;refine bodyPost_ret (v:=.tuple #[.agg #[.string (⟨#[]⟩:BA),.string (⟨#[103,111,49,46,49,56]⟩:BA),.slice none 0 0],.bool true,.int .i64 0]) ?_ rfl ⟨rfl,gk⟩;simp [results,Tryz.results29,go_sem,z0,z1,z2]
theorem tX (A:Option Addr) (c:Nat) (w:World) (q:aL w A c mu) (x:cI w) :
  Calls Tryz.prog 29 #[.slice A 12 c] w fun e w'=>e=.returned (.tuple #[.agg #[.string (⟨#[]⟩:BA),.string (⟨#[]⟩:BA),.slice none 0 0],.bool false,.int .i64 0])∧Below w.heap.size w w':=by have J:Below w.heap.size w (w.alloc (.cells #[.string (⟨#[]⟩:BA),.string (⟨#[]⟩:BA),.slice none 0 0] 82)):=bel;have h:=ac.new w 82 #[.string (⟨#[]⟩:BA),.string (⟨#[]⟩:BA),.slice none 0 0];have H1:=hid (eB A c mu _ (q.below J) (x.below J) uY mr);have HV:=hid q;have HT:=hid x;clear q x;(go_enter Tryz.func29,Tryz.ntmps29);(go_wp2_with fail);refine H1.out.mono ?_;rintro e k ⟨A1,c1,rfl,gd,S,Q⟩;have y:=h.bl Q;have ga:=ah J Q;obtain ⟨b,o,rfl,u,x0,x1,x2⟩:=ik S;clear h Q J H1;have O:Below k.heap.size k (k.alloc (.cells #[.int .i64 2,.string (⟨#[112,97,99,107,97,103,101]⟩:BA),.int .i64 0] 116)):=bel;have U:=y.bl O;have K:=ah ga O;have H3:=hid (lP A c mu _ (HV.out.below K) (HT.out.below K) uY mr);clear O;(go_wp2_with fail);refine wp_loop_rounds 2 ?_;rw [rounds_succ];(go_wp2_with fail);refine H3.out.mono ?_;rintro e w3 ⟨A3,c3,rfl,gb,r,N⟩;have D:=U.bl N;have z:=ah K N;clear U K N H3 x0 x1 x2 S u r;have c0:=(D.cell 0).trans rfl;have c1:=(D.cell 1).trans rfl;have c2:=(D.cell 2).trans rfl;have f0:=D.frozen 0;have f1:=D.frozen 1;have f2:=D.frozen 2;(go_wp2_with fail);refine wp_loop_rounds 2 ?_;rw [rounds_succ];(go_wp2_with fail);have I:=rU D (.string (⟨#[]⟩:BA)) (.string (⟨#[]⟩:BA)) (.slice none 0 0);have j:=rV (b:=w.heap.size) z (Nat.le_refl _) (.string (⟨#[]⟩:BA)) (.string (⟨#[]⟩:BA)) (.slice none 0 0);generalize ((w3.setCell ⟨w.heap.size,0,none⟩ (.string (⟨#[]⟩:BA))).setCell ⟨w.heap.size,1,none⟩ (.string (⟨#[]⟩:BA))).setCell ⟨w.heap.size,2,none⟩ (.slice none 0 0)=M at *;have z0:M.cell? ⟨w.heap.size,0,none⟩=some (.string (⟨#[]⟩:BA)):=(I.cell 0).trans rfl;have z1:M.cell? ⟨w.heap.size,1,none⟩=some (.string (⟨#[]⟩:BA)):=(I.cell 1).trans rfl;have z2:M.cell? ⟨w.heap.size,2,none⟩=some (.slice none 0 0):=(I.cell 2).trans rfl;refine bodyPost_ret (v:=.tuple #[.agg #[.string (⟨#[]⟩:BA),.string (⟨#[]⟩:BA),.slice none 0 0],.bool false,.int .i64 0]) ?_ rfl ⟨rfl,j⟩;simp [results,Tryz.results29,go_sem,z0,z1,z2]
theorem nr (w:World):Calls Tryz.prog 138 #[.string (⟨#[]⟩:BA)] w fun e w'=>e=.returned (.bool false)∧Below w.heap.size w w':=by have D:=iN (n:=w.heap.size) w (⟨#[]⟩:BA) (Nat.le_refl _);have I:=World.iter_heap w (⟨#[]⟩:BA) 0;have K:=fun ty=>run_next_end_at (P:=Tryz.prog) (w.iter (⟨#[]⟩:BA) 0) w.heap.size (⟨#[]⟩:BA) 0 ty I (by decide);have J:=hid D;clear I D;(go_enter Tryz.func138,Tryz.ntmps138);(go_wp2_with fail);refine wp_loop_rounds 1 ?_;rw [rounds_succ];(go_wp2_with fail);go_ret;exact ⟨rfl,J.out⟩
theorem oJ (w:World):Calls Tryz.prog 86 #[.agg #[.string (⟨#[]⟩:BA),.string (⟨#[]⟩:BA),.slice none 0 0],.int .i64 100] w fun e w'=>e=.returned (.bool false)∧Below w.heap.size w w':=by have I:=hid (show Below w.heap.size w ((w.alloc (.cells #[.string (⟨#[]⟩:BA),.string (⟨#[]⟩:BA),.slice none 0 0] 82)).alloc (.cells #[.int .i64 100] 3)) from bel);(go_enter Tryz.func86,Tryz.ntmps86);(go_wp2_with fail);refine (nr _).mono ?_;rintro e w1 ⟨rfl,hb⟩;have D:=ah I.out hb;(go_wp2_with fail);go_ret;exact ⟨rfl,D⟩
theorem oK (w:World):Calls Tryz.prog 55 #[.agg #[.string (⟨#[]⟩:BA),.string (⟨#[]⟩:BA),.slice none 0 0]] w fun e w'=>e=.returned (.bool false)∧Below w.heap.size w w':=by have I:=hid (show Below w.heap.size w (w.alloc (.cells #[.string (⟨#[]⟩:BA),.string (⟨#[]⟩:BA),.slice none 0 0] 82)) from bel);(go_enter Tryz.func55,Tryz.ntmps55);(go_wp2_with fail);refine (oJ _).mono ?_;rintro e w1 ⟨rfl,hb⟩;have D:=ah I.out hb;(go_wp2_with fail);go_ret;exact ⟨rfl,D⟩
theorem oL (w:World):Calls Tryz.prog 31 #[.agg #[.string (⟨#[]⟩:BA),.string (⟨#[]⟩:BA),.slice none 0 0]] w fun e w'=>e=.returned (.int .i64 (-1))∧Below w.heap.size w w':=by have I:=hid (show Below w.heap.size w (w.alloc (.cells #[.string (⟨#[]⟩:BA),.string (⟨#[]⟩:BA),.slice none 0 0] 82)) from bel);(go_enter Tryz.func31,Tryz.ntmps31);(go_wp2_with fail);refine (oK _).mono ?_;rintro e w1 ⟨rfl,hb⟩;have D:=ah I.out hb;(go_wp2_with fail);go_ret;exact ⟨rfl,D⟩
end
section
open Go.RowKit Go.Sort Go.Lib Go.Proofs
attribute [local go_sem ↓] Go.wp_at_zero Go.wp_at_succ
def co (a b:ByteArray):Int:=if a.toList<b.toList then -1 else if b.toList<a.toList then 1 else 0
theorem mc (a:ByteArray) (w:World):Calls Tryz.prog 48 #[.string a] w fun e w'=>e=.returned (.bool false)∧w=w':=by (go_enter Tryz.func48,Tryz.ntmps48);go_wp2;go_ret;exact ⟨by simp,rfl⟩
theorem pC (a b:ByteArray) (w:World):Calls Tryz.prog 26 #[.string a,.string b] w fun e w'=>e=.returned (.int .i64 (co a b))∧w=w':=by
 have hb:=bytesLess_eq a.toList b.toList;have M:¬ a.toList<b.toList→¬ b.toList<a.toList→a.toList=b.toList:=fun D I=>List.le_antisymm (List.not_lt.1 I) (List.not_lt.1 D);have N:a.toList=b.toList→¬ b.toList<a.toList:=fun h I=>List.lt_irrefl _ (h▸I);by_cases D:a.toList<b.toList
 ·(have Q:Op.bytesLess a.toList b.toList=true:=by simp [hb,D]);(have J:co a b = -1:=by simp [co,D]);rw [J];clear hb M N D J;(go_enter Tryz.func26,Tryz.ntmps26);go_wp2_with (go_at_call 48;refine (mc _ _).mono ?_;rintro e w' ⟨rfl,rfl⟩);go_ret;exact ⟨rfl,rfl⟩
 ·(have Q:Op.bytesLess a.toList b.toList=false:=by simp [hb,D]);by_cases I:a.toList=b.toList
  ·(have O:(a.toList==b.toList)=true:=by simp [I]);(have J:co a b=0:=by simp [co,D,N I]);rw [J];clear hb M N D I J;(go_enter Tryz.func26,Tryz.ntmps26);go_wp2_with (go_at_call 48;refine (mc _ _).mono ?_;rintro e w' ⟨rfl,rfl⟩);go_ret;exact ⟨rfl,rfl⟩
  ·(have O:(a.toList==b.toList)=false:=by simp [I]);have K:b.toList<a.toList:=by
    by_cases K:b.toList<a.toList
    ·exact K
    ·exact absurd (M D K) I
   (have J:co a b=1:=by simp [co,D,K]);rw [J];clear hb M N D I K J;(go_enter Tryz.func26,Tryz.ntmps26);go_wp2_with (go_at_call 48;refine (mc _ _).mono ?_;rintro e w' ⟨rfl,rfl⟩);go_ret;exact ⟨rfl,rfl⟩
abbrev dr:=ByteArray × Value
def eQ (x:dr):Value:=.agg #[.string x.1,x.2]
theorem cr (x y:dr) (w:World):Calls Tryz.prog 25 #[eQ x,eQ y] w fun e w'=>e=.returned (.int .i64 (co x.1 y.1))∧Below w.heap.size w w':=by have D:=hid (show Below w.heap.size w ((w.alloc (.cells #[.string x.1,x.2] 46)).alloc (.cells #[.string y.1,y.2] 46)) from bel);unfold eQ;(go_enter Tryz.func25,Tryz.ntmps25);(go_wp2_with fail);refine (pC _ _ _).mono ?_;rintro e w1 ⟨rfl,rfl⟩;(go_wp2_with fail);go_ret;exact ⟨rfl,D.out⟩
theorem ct (a:Array Value) (w:World):(callFunc 25 a).run Tryz.prog w=.ok (.enter 25 a) w:=by kernel_rfl
def cB (l:List dr):List Value:=l.flatMap fun x=>[.string x.1,x.2]
theorem fQ (x:dr):((fun x:dr=>[Value.string x.1,x.2]) x).length=2:=rfl
theorem tB (A:Option Addr) (cap:Nat) (l:List dr) (w:World) (hr:ae w w.heap.size 2 A l.length (cB l)) (hl:l.length≤1000) (ord:∀ j (h:j+1<l.length),0≤co l[j+1].1 l[j].1) :
  Calls Tryz.prog 72 #[.slice A l.length cap,.int .i64 0,.int .i64 l.length,.func (.func 25) #[] #[]] w fun e w'=>e=.returned (.tuple #[])∧Below w.heap.size w w':=by
 have he:=ct;have HR:=hid hr;have HO:=hid ord;clear hr ord;(go_enter Tryz.func72,Tryz.ntmps72);(go_wp2_with fail);go_loopg [8] l.length (fun g u8 wr=>∃ i:Nat,1≤i∧l.length+1-i≤g+1∧i≤l.length+1∧u8=.int .i64 (i:Int)∧Below w.heap.size w wr)
 case atStart=>exact ⟨1,Nat.le_refl _,by omega,by omega,rfl,Below.refl _ _⟩
 case round=>
  obtain ⟨i,gd,hg,gb,rfl,M⟩:=hrel;by_cases J:i<l.length
  ·obtain ⟨k,K⟩:∃ k,i=k+1:=⟨i-1,by omega⟩;(have N:(i:Int)<(l.length:Int):=by omega);(have ga:(k:Int)<(l.length:Int):=by omega);(have h0:(0:Int)<(i:Int):=by omega);(have h1:(0:Int)≤(i:Int):=by omega);(have h2:(0:Int)≤(k:Int):=by omega);(have q1:IntKind.i64.wrap ((i:Int)-1)=(k:Int):=by rw [show (i:Int)-1=(k:Int) by omega];exact IntWalk.i64_in _ (by omega));obtain ⟨bk,off,rfl,r,O⟩:=(HR.out.below M).el fQ (by omega) rfl J;have q:=O i J 0 _ rfl;have k1:=O i J 1 _ rfl;have o:=O k (by omega) 0 _ rfl;have m1:=O k (by omega) 1 _ rfl;simp only [Nat.add_zero] at q o;have Q:=hid (fun W=>cr l[i] l[k] W);have HP:=hid (show 0≤co l[i].1 l[k].1 by have h:=HO.out k (by omega);simp only [←K] at h;exact h);unfold eQ at Q;generalize l[i]=x at *;generalize l[k]=y at *;obtain ⟨U,x2⟩:=x;obtain ⟨S,z⟩:=y;simp only at q k1 o m1 Q HP;have ge:=hid K;clear O K;(go_wp2_with fail);refine wp_loop_rounds 1 ?_;rw [rounds_succ];(go_wp2_with fail);(have g3:decide (co U S<0)=false:=by have:=HP.out;rw [decide_eq_false_iff_not];omega);have g0:decide ((0:Int)<(i:Int))=true:=decide_eq_true h0;have g1:decide (0<i)=true:=decide_eq_true (by omega);(have g2:0<i:=by omega);have D:bk<wr.heap.size:=Nat.lt_of_lt_of_le r M.size;have KS:∀ W,Below wr.heap.size wr W→W.cell? ⟨bk,off+i * 2,none⟩=some (.string U)∧W.cell? ⟨bk,off+i * 2+1,none⟩=some x2∧W.cell? ⟨bk,off+k * 2,none⟩=some (.string S)∧W.cell? ⟨bk,off+k * 2+1,none⟩=some z:=
    fun W h=>⟨(h.cell (p:=⟨bk,off+i * 2,none⟩) D).trans q,(h.cell (p:=⟨bk,off+i * 2+1,none⟩) D).trans k1,(h.cell (p:=⟨bk,off+k * 2,none⟩) D).trans o,(h.cell (p:=⟨bk,off+k * 2+1,none⟩) D).trans m1⟩
   go_region_held3 (fun w'=>w'.cell? ⟨bk,off+i * 2,none⟩=some (.string U)∧w'.cell? ⟨bk,off+i * 2+1,none⟩=some x2∧w'.cell? ⟨bk,off+k * 2,none⟩=some (.string S)∧w'.cell? ⟨bk,off+k * 2+1,none⟩=some z)
    (first | exact KS _ (ah (Below.refl _ _) I) | exact KS _ (ah (Below.refl _ _).drew I) | exact KS _ (ah (ab (Below.refl _ _) _) I) | exact KS _ (Below.refl _ _) | exact KS _ (Below.refl _ _).drew | exact KS _ (ab (Below.refl _ _) _) | exact KS _ bel)
    ((go_at_call 25;refine (Q.out _).mono ?_;rintro e w' ⟨rfl,I⟩))
   have u:Below w.heap.size w w':=M.trans ((ah (Below.refl wr.heap.size wr).drew I).mono M.size);clear KS Q I M;(go_wp2_with fail);go_roundg (l.length-(i+1))
   case measure=>omega
   case rel=>exact ⟨i+1,by omega,by omega,by omega,by go_num,u⟩
  ·(have N:¬ (i:Int)<(l.length:Int):=by omega);(go_wp2_with fail);go_end0;exact ⟨rfl,M⟩
theorem nX (A:Option Addr) (cap:Nat) (l:List dr) (w:World) (D:ae w w.heap.size 2 A l.length (cB l)) (J:l.length<20) (ord:∀ j (h:j+1<l.length),0≤co l[j+1].1 l[j].1) :
  Calls Tryz.prog 47 #[.slice A l.length cap,.int .i64 l.length,.func (.func 25) #[] #[]] w fun e w'=>e=.returned (.tuple #[])∧Below w.heap.size w w':=by have I:=hid (tB A cap l w D (by omega) ord);(have a1:¬ (20:Int)≤(l.length:Int):=by omega);(have a2:¬ (20:Int)<(l.length:Int):=by omega);clear D ord;(go_enter Tryz.func47,Tryz.ntmps47);(go_wp2_with fail);refine wp_loop_rounds 1 ?_;rw [rounds_succ];(go_wp2_with fail);refine I.out.mono ?_;rintro e w1 ⟨rfl,hb⟩;(go_wp2_with fail);refine wp_loop_rounds 1 ?_;rw [rounds_succ];(go_wp2_with fail);go_end0;exact ⟨rfl,hb⟩
theorem iQ (A:Option Addr) (cap:Nat) (l:List dr) (w:World) (D:ae w w.heap.size 2 A l.length (cB l)) (I:l.length<20) (ord:∀ j (h:j+1<l.length),0≤co l[j+1].1 l[j].1) :
  Calls Tryz.prog 24 #[.slice A l.length cap,.func (.func 25) #[] #[]] w fun e w'=>e=.returned (.tuple #[])∧Below w.heap.size w w':=by have J:=hid (nX A cap l w D I ord);clear D ord;(go_enter Tryz.func24,Tryz.ntmps24);(go_wp2_with fail);refine J.out.mono ?_;rintro e w1 ⟨rfl,hb⟩;(go_wp2_with fail);go_end0;exact ⟨rfl,hb⟩
end
section
open Go.RowKit Go.Lib Go.Proofs Go.Shelf
attribute [local go_sem ↓] Go.wp_at_zero Go.wp_at_succ
attribute [local go_sem] Oper.semAt_some
theorem bG {w:World} {base:Nat} {e:TypeId} {size n:Nat} {v:Value} {xs:List Value} (h:w.ownsRow base e size v n xs):∃ A c,v=.slice A n c∧n≤c:=by
 rcases h.2 with ⟨rfl,I⟩ | ⟨g,cap,cur,rfl,_,_,D,_⟩
 ·exact ⟨none,0,by rw [I],by omega⟩
 ·exact ⟨_,cap,rfl,D⟩
theorem md:(Tryz.prog.info? 46).map (fun i=>(i.zero,i.size,i.bytes))=some (some (.agg #[.string ⟨#[]⟩,.slice none 0 0]),2,40):=by kernel_rfl
theorem rX {l:List dr} (h:∀ x∈l,x.2.oneCell'=true):∀ u∈cB l,u.oneCell'=true:=by
 intro u hu;obtain ⟨x,I,D⟩:=List.mem_flatMap.1 hu;simp only [List.mem_cons,List.not_mem_nil,or_false] at D;rcases D with rfl | rfl
 ·rfl
 ·exact h x I
theorem pD (w:World):(w.alloc (.cells #[] 46)).ownsRow w.heap.size 46 2 (.slice (some ⟨w.heap.size,0,none⟩) 0 0) 0 []:=
 ⟨by simp,.inr ⟨w.heap.size,0,#[],rfl,Nat.le_refl _,heap_alloc_new w _,Nat.le_refl _,by unfold maxLen;omega,by simp,by simp⟩⟩
theorem pE (A:Option Addr) (c:Nat) (l:List dr) (w:World) (I:ae w w.heap.size 2 A l.length (cB l)) (O:∀ x∈l,x.2.oneCell'=true) (y:l.length≤1000) :
  Calls Tryz.prog 23 #[.slice A l.length c] w fun e w'=>∃ v,e=.returned v∧w'.ownsRow w.heap.size 46 2 v l.length (cB l)∧(∀ b,v.ownBlock=some b→b<w.heap.size+2)∧Below w.heap.size w w':=by
 obtain ⟨j,o,M,K,J⟩:=info_parts md;have U:∀ (w:World) (a:Option Addr) (n c n' c':Nat),(binOp .eql 35 (.slice a n c) (.slice none n' c')).run Tryz.prog w=.ok (.bool a.isNone) w:=fun w a n c n' c'=>Lib.run_eql_slice_nil w _ _ a n c n' c' Tryz.underlying35;have q:=hid I;have u:=hid (rX O);cases A with
 | none=>
  have S:l.length=0:=by
   rcases Nat.eq_zero_or_pos l.length with h | h
   ·exact h
   ·obtain ⟨ad,h,_⟩:=I.2 h;cases h
  have r:=hid (List.eq_nil_of_length_eq_zero S);clear I O S;(go_enter Tryz.func23,Tryz.ntmps23);(go_wp2_with fail);go_ret;refine ⟨_,rfl,?_,nofun,Below.refl _ _⟩;rw [r.out];exact World.ownsRow_nil _ _ _ _
 | some ad=>
  clear I O;(go_enter Tryz.func23,Tryz.ntmps23);go_wp2_with (at_builtin;refine c9 _ rfl (.tmp 5) (.tmp 6) 35 rfl w.heap.size 46 j _ 2 40 Tryz.underlying35 o M K J rfl (by omega) (.slice (some ⟨w.heap.size,0,none⟩) 0 0) 0 [] rfl (pD w) w.heap.size (some ad) l.length c (cB l) rfl (q.out.alloc (Nat.le_refl _) _) u.out (by unfold maxLen;omega) (by omega) (by rw [World.size_alloc];omega) ?_;intro v w2 hown hg D);go_ret;have N:(Value.slice (some ⟨w.heap.size,0,none⟩) 0 0).ownBlock=some w.heap.size:=rfl;rw [N] at hg D;refine ⟨v,rfl,by simpa using hown,fun b hb=>?_,((Below.refl w.heap.size w).alloc (Nat.le_refl _) _).grown hg (by simp) (by intro k Q;injection Q with Q;omega)⟩;rcases D with h | h
  ·rw [h] at hb;injection hb with hb;omega
  ·rw [h,World.size_alloc] at hb;injection hb with hb;omega
def lI (l:List dr):Prop:=∀ (A:Option Addr) (c:Nat) (w:World),ae w w.heap.size 2 A l.length (cB l) →
 Calls Tryz.prog 24 #[.slice A l.length c,.func (.func 25) #[] #[]] w fun e w'=>e=.returned (.tuple #[])∧Below w.heap.size w w'
theorem pF {l:List dr} (D:l.length<20) (ord:∀ j (h:j+1<l.length),0≤co l[j+1].1 l[j].1):lI l:=fun A c w hr=>iQ A c l w hr D ord
def wg:ByteArray:=⟨#[46,103,111]⟩
def fm (s:ByteArray):ByteArray:=⟨(Lib.trimSuffix s.data.toList wg.data.toList).toArray⟩
def fo (s:ByteArray):Bool:=Lib.hasSuffix s.data.toList wg.data.toList
def aU (l:List dr) (i:Nat):ByteArray:=(l.map (·.1)).getD i ⟨#[]⟩
def dW (l:List dr) (i:Nat):Bool:=(decide (0<i)&&(aU l (i-1)).toList==(aU l i).toList)||(decide (i+1<l.length)&&(aU l (i+1)).toList==(aU l i).toList)
def bB (l:List dr) (i:Nat):Bool:=fo (aU l i)&&(!(fm (aU l i)).toList.isEmpty && !dW l i)
def cC (l:List dr):List (dr × Bool):=l.zipIdx.map fun x=>(x.1,bB l x.2)
theorem cv (l:List dr):(cC l).length=l.length:=by simp [cC]
theorem ie (l:List dr) (i:Nat) (h:i<l.length):(cC l)[i]'(by rw [cv];exact h)=(l[i],bB l i):=by simp [cC]
theorem bM (l:List dr) (i:Nat) (h:i<l.length):aU l i=l[i].1:=by simp [aU,h]
theorem rY {w:World} {lo B n:Nat} {A:Option Addr} {xs:List Value} (h:a7 (fun b=>lo≤b∧b<B) w 2 A n xs):ae w B 2 A n xs:=
 ⟨h.1,fun D=>by obtain ⟨b,off,e,hb,I⟩:=h.2 D;exact ⟨⟨b,off,none⟩,e,hb.2,fun j u hu=>by rw [fb];exact I j u hu⟩⟩
theorem mW (a:Array Value) (w:World):(callFunc 22 a).run Tryz.prog w=.ok (.enter 22 a) w:=by kernel_rfl
theorem nY (A:Option Addr) (c:Nat) (l:List dr) (w:World) (hr:ae w w.heap.size 2 A l.length (cB l)) (hv:∀ x∈l,∃ A n c,x.2=.slice A n c) (hl:l.length≤1000) (hz:∀ x∈l,x.1.size≤1000) (hS:lI l) (q:Nat) (hq:ac w q 35 #[.slice A l.length c]) (Cx:Nat→Prop) :
  mb Tryz.prog 22 #[.pointer (some ⟨q,0,none⟩)] (fun x:dr × Bool => #[eQ x.1,.bool x.2]) (fun x=>x) (fun x _=>∃ A n c,x.1.2=Value.slice A n c) Cx (cC l) (fun _=>False) 2 w:=by
 intro m lp J W hlp hlp2 hA hbox hCK hJ hY h0;(have o:∀ k:Nat,((Fence.wide).depth.isSome=true→1≤k):=fun k h=>by cases h);have ga:Below w.heap.size w W:=⟨hA.bel.os,hA.bel.tape,hA.bel.output,hA.bel.size,fun k hk=>hA.same k hk (fun h=>h) fun h=>by omega⟩;have hQ:=hq.bl ga;have x0:=aA hQ;have HY:=hid hY;have HJ:=hid hJ;have gi:=hid hCK;have hC:=pE A c l W ((hr.below ga).more ga.size) (fun x hx=>by obtain ⟨a,n,k,e⟩:=hv x hx;rw [e];rfl) hl;have HV:=hid hv;have HZ:=hid hz;clear hA hbox hY hJ hCK hr hv hq hz ga;refine callsIn_of_wp Tryz.func22 rfl trivial ?_ rfl;simp only [Tryz.ntmps22,List.size_toArray,List.length_cons,List.length_nil,Nat.reduceAdd,Nat.reduceSub,Array.replicate_succ,Array.replicate_zero,List.push_toArray,List.append_toArray,List.nil_append,List.cons_append]
 gi_wp2
 refine ⟨trivial,o _,(callsIn_wide.2 hC).mono ?_⟩;rintro e w1 ⟨v,rfl,O,gq,S⟩;obtain ⟨A1,c1,rfl,h5⟩:=bG O;have ha:a7 (fun b=>W.heap.size≤b∧b<W.heap.size+2) w1 2 A1 l.length (cB l):=⟨O.1,fun hn=>by obtain ⟨g,cp,hv,hw,K⟩:=O.form hn;injection hv with e1 e2 e3;subst e1;exact ⟨g,0,rfl,⟨hw,gq g rfl⟩,fun j u hu=>by have:=O.cells (g:=g) rfl j u hu;rw [fb] at this;exact this⟩⟩
 have HS:=hid (hS A1 c1 w1 (ae.of_own O));have gd:=HJ.out _ _ _ h0 (Ab.below S);have g4:=S.size;clear hC O gq x0 hQ h0 S
 gi_wp2
 refine ⟨trivial,o _,(callsIn_wide.2 HS.out).mono ?_⟩;rintro e w2 ⟨rfl,gl⟩;have g8:=HJ.out _ _ _ gd (Ab.mono (Ab.below gl (n:=w1.heap.size) (Bx:=fun _=>False)) g4 (fun _ h=>h.elim));have g9:=ha.keep fun b _ h=>gl.block b h;have ht:=gl.size;clear HS ha gd
 gi_wp2
 gi_loopg [15] l.length (fun gg u15 wr=>∃ i:Nat,i≤l.length∧l.length-i≤gg∧u15=.int .i64 (i:Int)∧W.heap.size≤wr.heap.size∧a7 (fun b=>W.heap.size≤b∧b<W.heap.size+2) wr 2 A1 l.length (cB l)∧J ((cC l).take i) wr)
 case atStart=>exact ⟨0,Nat.zero_le _,by omega,rfl,by omega,g9,g8⟩
 case round=>
  clear g9 g8 gl g4 ht;obtain ⟨i,hi,hg,rfl,hs,hR,hj⟩:=hrel;by_cases K:i<l.length
  ·(have g5:(i:Int)<(l.length:Int):=by omega);(have h4:(0:Int)≤(i:Int):=by omega);obtain ⟨bk,off,rfl,gq,hc⟩:=(rY hR).el fQ (by omega) rfl K;have k0:=hc i K 0 _ rfl;have k1:=hc i K 1 _ rfl;simp only [Nat.add_zero] at k0;have HC:=hid hc;have HR:=hid hR;have gw:=hid hj;have gv:=hid (show (cC l).take i++(l[i],bB l i)::(cC l).drop (i+1)=cC l by (have hm:i<(cC l).length:=by rw [cv];exact K);rw [←ie l i K,←List.drop_eq_getElem_cons hm,List.take_append_drop]);have ge:=hid (show (cC l).take (i+1)=(cC l).take i++[(l[i],bB l i)] by (have hm:i<(cC l).length:=by rw [cv];exact K);rw [←ie l i K,List.take_succ_eq_append_getElem hm]);have gu:=hid (HZ.out _ (List.getElem_mem K));have hf:=hid (bM l i K);obtain ⟨va,vn,vc,gz⟩:=HV.out _ (List.getElem_mem K);have y:=hid (show bB l i=(fo (aU l i)&&(!(fm (aU l i)).toList.isEmpty && !dW l i)) from rfl);have I:=hid (show dW l i=((decide (0<i)&&(aU l (i-1)).toList==(aU l i).toList)||(decide (i+1<l.length)&&(aU l (i+1)).toList==(aU l i).toList)) from rfl);rw [hf.out] at y I;generalize bB l i=M at *;generalize dW l i=TW at *;clear hf hc hR hj;generalize l[i]=x at *;obtain ⟨nm,bv⟩:=x;simp only at k0 k1 gu y I gz;subst gz;have gh:=hid (fun W=>show Calls Tryz.prog 27 #[.string nm,.string wg] W (fun e w'=>e=.returned (.tuple #[.string (fm nm),.bool (fo nm)])∧w'=W) from rL nm wg W (by have:=gu.out;omega));generalize fm nm=st at *;generalize fo nm=eg at *
   gi_wp2
   refine ⟨trivial,o _,(callsIn_wide.2 (gh.out _)).mono ?_⟩;rintro e w3 ⟨rfl,rfl⟩
   gi_wp2
   have gr:Below wr.heap.size wr (wr.alloc (.cells #[.string nm,.slice va vn vc] 46)):=bel;have gn:=ac.new wr 46 #[.string nm,.slice va vn vc];(have h3:(wr.alloc (.cells #[.string nm,.slice va vn vc] 46)).heap.size=wr.heap.size+1:=by simp);have h1:bk<wr.heap.size:=World.block_lt_of_cell? wr _ k0;have gj:=hid (show ∀ (k:Nat) (hk:k<l.length),(wr.alloc (.cells #[.string nm,.slice va vn vc] 46)).cell? ⟨bk,off+k * 2,none⟩=some (.string l[k].1) from fun k hk=>(gr.cell (p:=⟨bk,off+k * 2,none⟩) h1).trans (HC.out k hk 0 _ rfl));have f0:=(gn.cell 0).trans rfl;have f1:=(gn.cell 1).trans rfl;have ho:=hid gr;clear gr k0 k1;generalize wr.alloc (.cells #[.string nm,.slice va vn vc] 46)=V at *
   gi_cut [8] from 71 (fun s8 wy=>s8=.bool TW∧Below V.heap.size V wy)
   case first=>
    clear gv ge y gh gw HR gi;obtain ⟨j,gd⟩:∃ j,j=i+1:=⟨_,rfl⟩;obtain ⟨k,g7⟩:∃ k,k=i-1:=⟨_,rfl⟩;(have q2:IntKind.i64.wrap ((i:Int)+1)=(j:Int):=by rw [show (i:Int)+1=(j:Int) by omega];exact IntWalk.i64_in _ (by omega));(have j0:(0:Int)≤(j:Int):=by omega);(have k0:(0:Int)≤(k:Int):=by omega);rw [←gd,←g7] at I;(have g6:k<l.length:=by omega);(have kl:(k:Int)<(l.length:Int):=by omega);have he:=hid (show 0<i→IntKind.i64.wrap ((i:Int)-1)=(k:Int) from fun h=>by rw [show (i:Int)-1=(k:Int) by omega];exact IntWalk.i64_in _ (by omega));have m1:=gj.out k g6;rw [←bM l k g6] at m1;generalize aU l k=n1 at *;clear gd g7;by_cases gb:j<l.length
    ·(have jl:(j:Int)<(l.length:Int):=by omega);have dj:decide ((j:Int)<(l.length:Int))=true:=decide_eq_true jl;have gt:decide (j<l.length)=true:=decide_eq_true gb;have m2:=gj.out j gb;rw [←bM l j gb] at m2;generalize aU l j=n2 at *;rw [gt,Bool.true_and] at I;clear gj;by_cases hp:0<i
     ·have q1:=he.out hp;have g0:decide ((0:Int)<(i:Int))=true:=decide_eq_true (by omega);have g1:decide (0<i)=true:=decide_eq_true hp;rw [g1,Bool.true_and] at I;cases S:(n1.toList==nm.toList) with
      | true=>
       have HT:=hid (show TW=true by rw [I.out,S,Bool.true_or])
       gi_quiet (fail)
       gi_wp2
       gi_meet
       exact ⟨by rw [HT.out],ab (Below.refl _ _) _⟩
      | false=>
       have HT:=hid (show TW=(n2.toList==nm.toList) by rw [I.out,S,Bool.false_or])
       gi_quiet (fail)
       gi_wp2
       gi_meet
       exact ⟨by rw [HT.out],ab (Below.refl _ _) _⟩
     ·have g0:decide ((0:Int)<(i:Int))=false:=decide_eq_false (by omega);have g1:decide (0<i)=false:=decide_eq_false hp;have HT:=hid (show TW=(n2.toList==nm.toList) by rw [I.out,g1,Bool.false_and,Bool.false_or]);clear hp
      gi_quiet (fail)
      gi_wp2
      gi_meet
      exact ⟨by rw [HT.out],ab (Below.refl _ _) _⟩
    ·have dj:decide ((j:Int)<(l.length:Int))=false:=decide_eq_false (by omega);have gt:decide (j<l.length)=false:=decide_eq_false gb;rw [gt,Bool.false_and,Bool.or_false] at I;clear gj gb;by_cases hp:0<i
     ·have q1:=he.out hp;have g0:decide ((0:Int)<(i:Int))=true:=decide_eq_true (by omega);have g1:decide (0<i)=true:=decide_eq_true hp;rw [g1,Bool.true_and] at I;cases S:(n1.toList==nm.toList) with
      | true=>
       have HT:=hid (show TW=true by rw [I.out,S])
       gi_quiet (fail)
       gi_wp2
       gi_meet
       exact ⟨by rw [HT.out],ab (Below.refl _ _) _⟩
      | false=>
       have HT:=hid (show TW=false by rw [I.out,S])
       gi_quiet (fail)
       gi_wp2
       gi_meet
       exact ⟨by rw [HT.out],ab (Below.refl _ _) _⟩
     ·have g0:decide ((0:Int)<(i:Int))=false:=decide_eq_false (by omega);have g1:decide (0<i)=false:=decide_eq_false hp;have HT:=hid (show TW=false by rw [I.out,g1,Bool.false_and]);clear hp
      gi_quiet (fail)
      gi_wp2
      gi_meet
      exact ⟨by rw [HT.out],ab (Below.refl _ _) _⟩
   case rest=>
    obtain ⟨rfl,yk⟩:=hcut;have gs:=gn.bl yk;clear f0 f1 gn gj HC I gh gu;have f0:=(gs.cell 0).trans rfl;have f1:=(gs.cell 1).trans rfl;(have h6:W.heap.size≤bk:=by obtain ⟨b',o',e,hb,-⟩:=HR.out.2 (by omega);injection e with e;injection e with e;rw [e];exact hb.1);have hW:Below wr.heap.size wr wc:=ho.out.trans (yk.mono (by omega));have h2:=yk.size;have gm:=hid (HR.out.keep fun b _ h=>hW.block b h);have gy:=HY.out _ _ _ wc (HJ.out _ _ _ gw.out (Ab.mono (Ab.below hW (n:=wr.heap.size) (Bx:=fun _=>False)) hs (fun _ h=>h.elim))) (by rw [List.map_id'];exact gv.out) ⟨va,vn,vc,rfl⟩ (by omega);clear yk gs hW gw HR ho gv;obtain ⟨fn,tmps,assign,body,hy,gx⟩:=YieldAt.anyM (m':=m-1) gy;dsimp only at hy;unfold eQ at hy;have U:=hid gx;clear gx gy;cases eg
    ·obtain rfl:M=false:=by rw [y.out];rfl
     gi_wp2
     refine ⟨o _,U.out.mono ?_⟩;rintro e w5 ⟨rfl,N,D⟩;have z:=hid N;have gp:=D.bel.size;have r:=hid (gm.out.keep fun b hb h=>D.same b h (by rintro (h | h);(exact gi.out b hb.1 hb.2 h);omega));clear N D f0 f1 hy U
     gi_wp2
     gi_roundg (l.length-(i+1))
     case measure=>omega
     case rel=>exact ⟨i+1,by omega,Nat.le_refl _,by go_num,by omega,r.out,by rw [ge.out];exact z.out⟩
    ·cases Q:st.toList.isEmpty
     ·(have g3:(st.toList==[])=false:=by rw [List.isEmpty_eq_false_iff] at Q;simp [Q]);(have g2:(!st.toList.isEmpty)=true:=by rw [Q];rfl);cases TW
      ·obtain rfl:M=true:=by rw [y.out,Q];rfl
       gi_wp2
       refine ⟨o _,U.out.mono ?_⟩;rintro e w5 ⟨rfl,N,D⟩;have z:=hid N;have gp:=D.bel.size;have r:=hid (gm.out.keep fun b hb h=>D.same b h (by rintro (h | h);(exact gi.out b hb.1 hb.2 h);omega));clear N D f0 f1 hy U
       gi_wp2
       gi_roundg (l.length-(i+1))
       case measure=>omega
       case rel=>exact ⟨i+1,by omega,Nat.le_refl _,by go_num,by omega,r.out,by rw [ge.out];exact z.out⟩
      ·obtain rfl:M=false:=by rw [y.out,Q];rfl
       gi_wp2
       refine ⟨o _,U.out.mono ?_⟩;rintro e w5 ⟨rfl,N,D⟩;have z:=hid N;have gp:=D.bel.size;have r:=hid (gm.out.keep fun b hb h=>D.same b h (by rintro (h | h);(exact gi.out b hb.1 hb.2 h);omega));clear N D f0 f1 hy U
       gi_wp2
       gi_roundg (l.length-(i+1))
       case measure=>omega
       case rel=>exact ⟨i+1,by omega,Nat.le_refl _,by go_num,by omega,r.out,by rw [ge.out];exact z.out⟩
     ·(have g3:(st.toList==[])=true:=by rw [List.isEmpty_iff] at Q;simp [Q]);(have g2:(!st.toList.isEmpty)=false:=by rw [Q];rfl);obtain rfl:M=false:=by rw [y.out,Q];rfl
      gi_wp2
      refine ⟨o _,U.out.mono ?_⟩;rintro e w5 ⟨rfl,N,D⟩;have z:=hid N;have gp:=D.bel.size;have r:=hid (gm.out.keep fun b hb h=>D.same b h (by rintro (h | h);(exact gi.out b hb.1 hb.2 h);omega));clear N D f0 f1 hy U
      gi_wp2
      gi_roundg (l.length-(i+1))
      case measure=>omega
      case rel=>exact ⟨i+1,by omega,Nat.le_refl _,by go_num,by omega,r.out,by rw [ge.out];exact z.out⟩
  ·(have g5:¬ (i:Int)<(l.length:Int):=by omega);have hh:=hid (show J (cC l) wr by rw [←List.take_of_length_le (l:=cC l) (i:=i) (by rw [cv];omega)];exact hj);clear hj hR
   gi_wp2
   go_end0;first | exact ⟨⟨_,rfl⟩,hh.out⟩ | exact ⟨⟨_,rfl⟩,_,List.map_id' _,hh.out⟩
def c5 (c:UInt8):Nat→ByteArray→List ByteArray
 | 0,s=>[s]
 | g+1,s=>if Lib.index s.data.toList [c]<0 then [s] else s.extract 0 (Lib.index s.data.toList [c]).toNat::c5 c g (s.extract ((Lib.index s.data.toList [c]).toNat+1) s.size)
def fp (c:UInt8) (s:ByteArray):List ByteArray:=c5 c s.size s
theorem ip {c:UInt8} {f:Nat} {s:ByteArray} (h:Lib.index s.data.toList [c]<0):c5 c f s=[s]:=by
 cases f with
 | zero=>rfl
 | succ f=>rw [c5,if_pos h]
theorem lJ (c:UInt8) (s:ByteArray) (hs:s.size≤65536) (w:World) (hT:ay w) (p q r:Nat) (hp:ac w p 9 #[.string ⟨#[c]⟩]) (hq:ac w q 9 #[.string s]) (hr:ac w r 3 #[.int .i64 0]) (gh:p≠q) (ge:r≠q)
  (Cx:Nat→Prop) (hn:0<q) (hC:¬ Cx p∧¬ Cx q∧¬ Cx r∧¬ Cx 0) :
  mb Tryz.prog 112 #[.pointer (some ⟨p,0,none⟩),.pointer (some ⟨q,0,none⟩),.pointer (some ⟨r,0,none⟩)] (fun x => #[.string x]) (fun x=>x) (fun _ _=>True) Cx (fp c s) (· = q) 0 w:=by
 intro m l J W hl _ hA u hCK hJ hY h0;clear hCK;(have U:∀ k:Nat,((Fence.wide).depth.isSome=true→1≤k):=fun k h=>by cases h);have hP:ac W p 9 #[.string ⟨#[c]⟩]:=(hA.same p hp.lt gh fun h=>absurd h (by have:=hp.lt;omega)).trans hp;have hQ:ac W q 9 #[.string s]:=(u q rfl).trans hq;have hR:ac W r 3 #[.int .i64 0]:=(hA.same r hr.lt ge fun h=>absurd h (by have:=hr.lt;omega)).trans hr;(have M:ay W:=by obtain ⟨mv,Q⟩:=hT;have N:=World.block_lt_of_cell? w _ Q;exact ⟨mv,(World.cell?_of_block (hA.same _ N (fun e=>by have e:0=q:=e;omega) fun h=>absurd h (by omega))).trans Q⟩);have x0:=aA hP;have HY:=hid hY;have HJ:=hid hJ;have HC:=hid (show ¬ (Cx p∨p=l)∧¬ (Cx q∨q=l)∧¬ (Cx r∨r=l)∧¬ (Cx 0∨0=l) from
  have lp:=hp.lt
  have lq:=hq.lt
  have lr:=hr.lt
  ⟨fun h=>h.elim hC.1 (by omega),fun h=>h.elim hC.2.1 (by omega),fun h=>h.elim hC.2.2.1 (by omega),fun h=>h.elim hC.2.2.2 (by omega)⟩)
 clear hA u hY hJ hT hp hq hr hC;refine callsIn_of_wp Tryz.func112 rfl trivial ?_ rfl;simp only [Tryz.ntmps112,List.size_toArray,List.length_cons,List.length_nil,Nat.reduceAdd,Nat.reduceSub,Array.replicate_succ,Array.replicate_zero,List.push_toArray,List.append_toArray,List.nil_append,List.cons_append]
 gi_wp2
 gi_loopg [7,8] s.size (fun gg _ _ wr=>∃ (cur:ByteArray) (pre:List ByteArray),cur.size≤65536∧cur.size≤gg∧ac wr p 9 #[.string ⟨#[c]⟩]∧ac wr q 9 #[.string cur]∧ac wr r 3 #[.int .i64 0]∧ay wr∧J pre wr∧W.heap.size≤wr.heap.size∧pre++c5 c gg cur=fp c s)
 case atStart=>exact ⟨s,[],hs,Nat.le_refl _,hP,hQ,hR,M,h0,Nat.le_refl _,rfl⟩
 case round=>
  clear hP hQ hR M h0 x0;obtain ⟨cur,pre,gv,gw,hP,hQ,hR,M,hj,z,D⟩:=hrel;have x0:=aA hP;have x1:=aA hQ;have x2:=aA hR;have o:=fun W (hT:ay W)=>pw cur ⟨#[c]⟩ W hT (by omega);rw [show (⟨#[c]⟩:ByteArray).data.toList=[c] from rfl] at o;have I:=Lib.index_room cur.data.toList [c];have gp:cur.data.toList.length=cur.size:=rfl;rw [gp] at I;have HI:=hid o;have HS:=hid D;have gx:=hid hj;by_cases N:Lib.index cur.data.toList [c]<0
  ·have y:=HY.out pre cur [] wr hj (by rw [List.map_id',←D,ip N]) trivial z;have HN:=hid (show pre++[cur]=fp c s by rw [←D,ip N]);obtain ⟨fn,tmps,assign,body,hy,O⟩:=YieldAt.anyM (m':=m-1) y;have gb:=hid O;clear D hj O
   gi_wp2
   refine ⟨trivial,U _,(callsIn_wide.2 (HI.out _ M)).mono ?_⟩;rintro e w2 ⟨rfl,rfl⟩
   gi_wp2
   refine ⟨U _,gb.out.mono ?_⟩;rintro e w2 ⟨rfl,S,K⟩;have gd:=hid S;clear S
   gi_wp2
   go_end0;exact ⟨⟨_,rfl⟩,_,by rw [List.map_id'];exact HN.out,gd.out⟩
  ·(have j:0≤Lib.index cur.data.toList [c]:=by omega);obtain ⟨k,hk⟩:∃ k:Nat,Lib.index cur.data.toList [c]=k:=⟨_,(Int.toNat_of_nonneg j).symm⟩;(have gu:k+1≤cur.size:=by have:=I (by omega);rw [hk] at this;have e2:(([c]:List UInt8).length:Int)=1:=rfl;omega);obtain ⟨g1,rfl⟩:∃ g1,gk=g1+1:=⟨gk-1,by omega⟩;rw [c5,if_neg N,hk,Int.toNat_natCast] at D;have y:=HY.out pre (cur.extract 0 k) _ wr hj (by rw [List.map_id'];exact D) trivial z;have HN:=hid (show (pre++[cur.extract 0 k])++c5 c g1 (cur.extract (k+1) cur.size)=fp c s by rw [←D,List.append_assoc];rfl);obtain ⟨fn,tmps,assign,body,hy,O⟩:=YieldAt.anyM (m':=m-1) y;have gb:=hid O;rw [hk] at HI;(have p0:(0:Int)≤(k:Int):=by omega);(have p1:(k:Int)≤(cur.size:Int):=by omega);(have p2:(k:Int)+1≤(cur.size:Int):=by omega);(have q1:IntKind.i64.wrap ((k:Int)+0)=(k:Int):=by rw [Int.add_zero];exact IntWalk.i64_in _ (by omega));have q2:IntKind.i64.wrap ((k:Int)+1)=(k:Int)+1:=IntWalk.i64_in _ (by omega);have gi:=ce cur (k+1);have gm:=hid gi;clear D hj O N j hk I gi
   gi_wp2
   refine ⟨trivial,U _,(callsIn_wide.2 (HI.out _ M)).mono ?_⟩;rintro e w2 ⟨rfl,rfl⟩
   gi_wp2
   refine ⟨U _,gb.out.mono ?_⟩;rintro e w2 ⟨rfl,S,K⟩;have gd:=hid S;have gj:=K.blk hP HC.out.1;have ga:=K.blk hQ HC.out.2.1;have gr:=K.blk hR HC.out.2.2.1;have gl:=hid (show ay w2 by obtain ⟨mv,Q⟩:=M;exact ⟨mv,(World.cell?_of_block (K.same _ (World.block_lt_of_cell? _ _ Q) HC.out.2.2.2)).trans Q⟩);have gn:=Nat.le_trans z K.bel.size;clear S K x0 x1 x2 hP hQ hR M;have x0:=aA gj;have x1:=aA ga;have f1:=ga.frozen 0;(have gs:ac (w2.setCell ⟨q,0,none⟩ (.string (cur.extract (k+1) cur.size))) q 9 #[.string (cur.extract (k+1) cur.size)]:=by simpa using ga.set_ 0 (.string (cur.extract (k+1) cur.size)));have gt:=gj.far (p:=⟨q,0,none⟩) gh (.string (cur.extract (k+1) cur.size));have gq:=gr.far (p:=⟨q,0,none⟩) ge (.string (cur.extract (k+1) cur.size))
   gi_wp2
   gi_roundg g1
   case measure=>omega
   case rel=>exact ⟨_,_,by have:=gm.out;omega,by have:=gm.out;omega,gt,gs,gq,⟨gl.out.choose,(World.cell?_of_block (Below.heap_setCell _ ⟨q,0,none⟩ _ _ (by show 0≠q;omega))).trans gl.out.choose_spec⟩,HJ.out _ _ _ gd.out (Ab.setCell (b:=q) (Bx:=fun x=>x=q∨_) _ (.inl rfl) _),Nat.le_trans gn ((Below.refl 0 w2).setCell (p:=⟨q,0,none⟩) (Nat.zero_le _) _).size,HN.out⟩
structure lT (n₀ OB:Nat) (W W':World):Prop where
 bel:Below n₀ W W'
 row:∀ k,k≠OB→(∃ c t f,W.heap[k]? = some (.cells c t f))→W'.heap[k]? = W.heap[k]?
theorem lT.trans {n₀ OB:Nat} {A B C:World} (h:lT n₀ OB A B) (k:lT n₀ OB B C):lT n₀ OB A C:=
 ⟨h.bel.trans k.bel,fun j hj D=>by have e:=h.row j hj D;obtain ⟨c,t,f,D⟩:=D;exact (k.row j hj ⟨c,t,f,e.trans D⟩).trans e⟩
theorem lT.refl (n₀ OB:Nat) (W:World):lT n₀ OB W W:=⟨Below.refl _ _,fun _ _ _=>rfl⟩
theorem lT.alloc {n₀ OB:Nat} {A W:World} (h:lT n₀ OB A W) (I:n₀≤W.heap.size) (o:Obj):lT n₀ OB A (W.alloc o):=
 h.trans ⟨(Below.refl _ _).alloc I o,fun k _ D=>by obtain ⟨c,t,f,D⟩:=D;exact Below.heap_alloc W o k (Array.getElem?_eq_some_iff.1 D).1⟩
theorem lT.blk {n₀ OB:Nat} {W W':World} (h:lT n₀ OB W W') {b:Nat} {t:TypeId} {cs:Array Value} (hb:ac W b t cs) (D:b≠OB):ac W' b t cs:=
 (h.row b D ⟨cs,t,(0,0),hb⟩).trans hb
theorem pe {n₀ OB:Nat} {w:World} (K:n₀≤w.heap.size) (W:World) (l:Nat) (o o':Obj) (M:w.heap.size≤l) (h:W.heap[l]? = some o) (I:o.isCells=false) (J:o.isWalk=false):lT n₀ OB W (W.putObj l o'):=
 ⟨belowK_b K W l o o' M h I J,fun k _ D=>by obtain ⟨c,t,f,D⟩:=D;refine World.putObj_heap_other (fun e=>?_);subst e;rw [h] at D;injection D with D;subst D;cases I⟩
abbrev YV:=Value × { k:Nat // k≤1000 }
def lU (x:YV):Array Value:=#[x.1,.int .i64 (x.2.1:Int)]
theorem tT (l n₀ OB N:Nat) (J Jx:List YV→World→Prop) (hJ:∀ s W o,J s W→J s (W.alloc o))
  (hY:∀ m pre x W,J pre W→pre.length<N→YieldAt Fence.wide m Tryz.prog l (lU x) W fun e W'=>(e=.returned (.bool true)∧J (pre++[x]) W'∧lT n₀ OB W W')∨(e=.returned (.bool false)∧Jx (pre++[x]) W')) :
  ∀ (g k:Nat) (v:Value) (n:Nd) (pre:List YV) (W:World),g≤1000→av (· < n₀) W v n→nS g n→J pre W→n₀≤W.heap.size→OB<W.heap.size→pre.length+(aG g n).length≤N →
    CallsIn Fence.wide k Tryz.prog 270 #[v,.int .i64 (g:Int),.func (.yield l) #[] #[]] W fun e W'=>
     (e=.returned (.bool true)∧(∃ ys,ys.map (·.2.1)=aG g n∧J (pre++ys) W')∧lT n₀ OB W W')∨(e=.returned (.bool false)∧∃ q,Jx q W'):=by
 intro g;induction g with
 | zero=>
  intro k v n pre W _ hv _ O hn _ _;obtain ⟨A,cp,rfl,hC⟩:=hv.toC;have M:=hid (hJ _ _ (.cells (nv n A cp) 41) O);refine callsIn_of_wp Tryz.func270 rfl trivial ?_ rfl;simp only [Tryz.ntmps270,List.size_toArray,List.length_cons,List.length_nil,Nat.reduceAdd,Nat.reduceSub,Array.replicate_succ,Array.replicate_zero,List.push_toArray,List.append_toArray,List.nil_append,List.cons_append]
  gi_wp2
  go_ret;exact .inl ⟨rfl,⟨[],rfl,by simpa using M.out⟩,(lT.refl _ _ _).alloc hn _⟩
 | succ g ih=>
  intro k v n pre W hg hv hw O hn hob hN;have gj:=hv;obtain ⟨A,cp,rfl,hC⟩:=hv.toC;(have gi:∀ k:Nat,((Fence.wide).depth.isSome=true→1≤k):=fun k h=>by cases h);have M:=hid (hJ _ _ (.cells (nv n A cp) 41) O);have b1:=(aq W (nv n A cp)).2;(have hz:((g:Int)+1==0)=false:=by simp;omega);rw [aG,List.length_cons] at hN;obtain ⟨fn,tmps,assign,body,hy,hR⟩:=hY (k-1) pre (.agg (nv n A cp),⟨g+1,hg⟩) _ M.out (by omega);refine callsIn_of_wp Tryz.func270 rfl trivial ?_ rfl;simp only [Tryz.ntmps270,List.size_toArray,List.length_cons,List.length_nil,Nat.reduceAdd,Nat.reduceSub,Array.replicate_succ,Array.replicate_zero,List.push_toArray,List.append_toArray,List.nil_append,List.cons_append];have gp:(Instr.yield l #[.agg (nv n A cp),.int .i64 ((g:Int)+1)]).run Tryz.prog (W.alloc (.cells (nv n A cp) 41))=.ok (.round l fn tmps assign body) (W.alloc (.cells (nv n A cp) 41)):=hy;have HN:=hid hN;have HW:=hid hw;have HV:=hid gj;have HH:=hid hY;have HI:=hid ih;have gw:=hid hJ;have gm:=hid ((lT.refl n₀ OB W).alloc hn (.cells (nv n A cp) 41));clear hy gj hv hC hN hw O hY ih hJ
  gi_wp2
  refine ⟨gi _,hR.mono ?_⟩;rintro e W1 (⟨rfl,gh,K⟩ | ⟨rfl,y⟩)
  case inr=>
   have gt:=hid y;clear y
   gi_wp2
   go_ret;exact .inr ⟨rfl,_,gt.out⟩
  have c1:=K.blk b1 (by omega);obtain ⟨x0,x1,x2,x3,_,_,_,_⟩:=aJ c1;have gz:=hid gh;have gv:=hid (gm.out.trans K);have gq:=K.bel.size;simp at gq;clear hR gh K M gp b1 gm
  gi_wp2
  generalize hpre:pre++[((.agg (nv n A cp):Value),(⟨g+1,hg⟩ : { k:Nat // k≤1000 }))]=D at *;(have ga:D.length=pre.length+1:=by rw [←hpre];simp);have gl:=hid hpre;clear hpre;have g1:=HW.out.1.1
  gi_loopw [8,19] (fun _ u19 wr=>∃ (i:Nat) (ys:List YV),i≤n.kids.length∧u19=.int .i64 (i:Int)∧ys.map (·.2.1)=(n.kids.take i).flatMap (aG g)∧J (D++ys) wr∧lT n₀ OB W wr) (fun _ u19 _=>n.kids.length-(RowKit.intOf u19).toNat)
  case atStart=>exact ⟨0,[],Nat.zero_le _,rfl,rfl,by simpa using gz.out,gv.out⟩
  case round=>
   clear x0 x1 x2 x3 c1;obtain ⟨i,ys,hi,rfl,j,O,hk⟩:=hrel;have Q:=hid j;have gn:=hid O;clear j O;by_cases I:i<n.kids.length
   ·(have z:(i:Int)<(n.kids.length:Int):=by omega);(have h0:(0:Int)≤(i:Int):=by omega);obtain ⟨b,off,A1,yk,rfl,g2,g3,k0,k1,k2,k3,gd⟩:=(HV.out.keep (fun b hb _=>hk.bel.block b hb)).kidsV.kid i I;have HM:=hid (List.getElem_mem I);have S:=hid (show (n.kids.take (i+1)).flatMap (aG g)=(n.kids.take i).flatMap (aG g)++aG g n.kids[i] by rw [List.take_succ_eq_append_getElem I,List.flatMap_append];simp);(have gb:((n.kids.take (i+1)).flatMap (aG g)).length≤(n.kids.flatMap (aG g)).length:=by (conv=>rhs;rw [←List.take_append_drop (i+1) n.kids,List.flatMap_append]);rw [List.length_append];omega);generalize n.kids[i]=x at *;(have r:ys.length=((n.kids.take i).flatMap (aG g)).length:=by rw [←Q.out,List.length_map]);have g0:=hk.bel.size;have HC:=hid (HI.out (k-1) _ x (D++ys) _ (by omega) (gd.keep (w':=wr.alloc (.cells (nv x A1 yk) 41)) (fun b _ I=>Below.heap_alloc wr _ b I)) (HW.out.2 x HM.out) (gw.out _ _ (.cells (nv x A1 yk) 41) gn.out) (by simp;omega) (by simp;omega) (by have:=HN.out;rw [S.out,List.length_append] at gb;rw [List.length_append,ga,r];omega));clear gd gb r
    gi_wp2
    refine ⟨trivial,gi _,HC.out.mono ?_⟩;rintro e W2 (⟨rfl,⟨zs,U,gg⟩,ge⟩ | ⟨rfl,q,u⟩)
    case inr=>
     have gs:=hid u;clear u
     gi_wp2
     go_ret;exact .inr ⟨rfl,_,gs.out⟩
    have HZ:=hid (show (ys++zs).map (·.2.1)=(n.kids.take (i+1)).flatMap (aG g) by rw [List.map_append,Q.out,U,S.out]);have gy:=hid (show J (D++(ys++zs)) W2 by rw [←List.append_assoc];exact gg);have gu:=hid ((hk.alloc (by omega) _).trans ge);clear HC U gg ge S k0 k1 k2 k3
    gi_wp2
    go_roundw
    case rel=>exact ⟨i+1,ys++zs,by omega,by go_num,HZ.out,gy.out,gu.out⟩
    case measure=>simp [RowKit.intOf];omega
   ·(have z:¬ (i:Int)<(n.kids.length:Int):=by omega);have ht:n.kids.take i=n.kids:=List.take_of_length_le (by omega);have gr:=hid (show (((.agg (nv n A cp):Value),(⟨g+1,hg⟩ : { k:Nat // k≤1000 }))::ys).map (·.2.1)=aG (g+1) n by rw [aG,List.map_cons,Q.out,ht]);have gx:=hid (show J (pre++((.agg (nv n A cp):Value),(⟨g+1,hg⟩ : { k:Nat // k≤1000 }))::ys) wr by have:=gn.out;rw [←gl.out,List.append_assoc] at this;simpa using this);clear ht
    gi_wp2
    go_ret;exact .inl ⟨rfl,⟨_,gr.out,gx.out⟩,hk⟩
theorem lV (l n₀ OB k g:Nat) (v:Value) (n:Nd) (J Jx:List YV→World→Prop) (hJ:∀ s W o,J s W→J s (W.alloc o))
  (y:∀ pre x W,J pre W→pre.length<(aG g n).length→YieldAt Fence.wide (k-1) Tryz.prog l (lU x) W fun e W'=>(e=.returned (.bool true)∧J (pre++[x]) W'∧lT n₀ OB W W')∨(e=.returned (.bool false)∧Jx (pre++[x]) W'))
  (W:World) (bn bd:Nat) (A:Option Addr) (cp:Nat) (he:v=.agg (nv n A cp)) (hg:g≤1000) (I:ac W bn 41 (nv n A cp)) (K:ac W bd 3 #[.int .i64 (g:Int)])
  (u:av (· < n₀) W v n) (r:nS g n) (hn:n₀≤W.heap.size) (O:OB<W.heap.size) (h0:J [] W) :
  CallsIn Fence.wide k Tryz.prog 269 #[.func (.yield l) #[] #[],.pointer (some ⟨bn,0,none⟩),.pointer (some ⟨bd,0,none⟩)] W fun e W'=>(∃ v,e=.returned v)∧((∃ ys,ys.map (·.2.1)=aG g n∧J ys W')∨(∃ q:List YV,True∧Jx q W')):=by
 (have Q:∀ k:Nat,((Fence.wide).depth.isSome=true→1≤k):=fun k h=>by cases h);have N:=hid (tT l n₀ OB (aG g n).length J Jx hJ (fun m pre x W M hl=>by obtain ⟨fn,tmps,assign,body,hy,z⟩:=y pre x W M hl;exact ⟨fn,tmps,assign,body,hy,⟨z.1,fun c cs _=>z.2 c cs (fun d h=>by cases h)⟩⟩) g (k-1) v n [] W hg u r h0 hn O (by simp));obtain ⟨x0,x1,x2,x3,_,_,_,_⟩:=aJ I;have hd:=aA K;subst he;clear u y hJ I K r;refine callsIn_of_wp Tryz.func269 rfl trivial ?_ rfl;simp only [Tryz.ntmps269,List.size_toArray,List.length_cons,List.length_nil,Nat.reduceAdd,Nat.reduceSub,Array.replicate_succ,Array.replicate_zero,List.push_toArray,List.append_toArray,List.nil_append,List.cons_append]
 gi_wp2
 refine ⟨trivial,Q _,N.out.mono ?_⟩;rintro e W1 (⟨rfl,⟨ys,D,M⟩,hk⟩ | ⟨rfl,q,j⟩)
 ·have S:=hid D;have U:=hid M;clear D M N
  gi_wp2
  go_end0;exact ⟨⟨_,rfl⟩,.inl ⟨ys,S.out,by simpa using U.out⟩⟩
 ·have HX:=hid j;clear j N
  gi_wp2
  go_end0;exact ⟨⟨_,rfl⟩,.inr ⟨q,trivial,HX.out⟩⟩
theorem nj (k:Nat) (v:Value) (d:Int) (n:Nd) (w:World) (D:bo w v n) :
  CallsIn Fence.wide k Tryz.prog 203 #[v,.int .i64 d] w fun e w'=>e=.returned (.func (.func 269) #[] #[.pointer (some ⟨w.heap.size,0,none⟩),.pointer (some ⟨w.heap.size+1,0,none⟩)])∧w'=(w.alloc (.cells v.cells 41)).alloc (.cells #[.int .i64 d] 3):=by
 obtain ⟨A,cp,rfl,I⟩:=D.toC;clear D I;refine callsIn_of_wp Tryz.func203 rfl trivial ?_ rfl;simp only [Tryz.ntmps203,List.size_toArray,List.length_cons,List.length_nil,Nat.reduceAdd,Nat.reduceSub,Array.replicate_succ,Array.replicate_zero,List.push_toArray,List.append_toArray,List.nil_append,List.cons_append]
 gi_wp2
 go_ret;exact ⟨rfl,rfl⟩
theorem iZ (a:Array Value) (w:World):(callFunc 269 a).run Tryz.prog w=.ok (.enter 269 a) w:=by kernel_rfl
theorem wm (p q:Nat) (a b:Value) (t:Array Value):((#[p,q]:Array Nat).zip #[a,b]).foldl (fun t x=>t.setIfInBounds x.fst x.snd) t=(t.setIfInBounds p a).setIfInBounds q b:=by simp
theorem sG (w:World) (c:Array Value) (k:Int):ac ((((w.alloc (.cells c 41)).alloc (.cells #[.int .i64 0] 3)).alloc (.cells c 41)).alloc (.cells #[.int .i64 k] 3)) (w.heap.size+1) 3 #[.int .i64 0]∧ac ((((w.alloc (.cells c 41)).alloc (.cells #[.int .i64 0] 3)).alloc (.cells c 41)).alloc (.cells #[.int .i64 k] 3)) (w.heap.size+1+1) 41 c∧ac ((((w.alloc (.cells c 41)).alloc (.cells #[.int .i64 0] 3)).alloc (.cells c 41)).alloc (.cells #[.int .i64 k] 3)) (w.heap.size+1+1+1) 3 #[.int .i64 k] ∧
 Below w.heap.size w ((((w.alloc (.cells c 41)).alloc (.cells #[.int .i64 0] 3)).alloc (.cells c 41)).alloc (.cells #[.int .i64 k] 3))∧((((w.alloc (.cells c 41)).alloc (.cells #[.int .i64 0] 3)).alloc (.cells c 41)).alloc (.cells #[.int .i64 k] 3)).heap.size=w.heap.size+4:=⟨((ac.new_at (by simp) _ _).alloc _).alloc _,(ac.new_at (by simp) _ _).alloc _,ac.new_at (by simp) _ _,fd,by simp⟩
theorem sH (v:Value) (n:Nd) (w:World) (u:bo w v n) (hw:nS 100 n) (M:(aG 100 n).length≤1000000000) :
  CallsIn Fence.wide 9 Tryz.prog 147 #[v] w fun e w'=>e=.returned (.int .i64 ((aG 100 n).length:Int))∧Below w.heap.size w w':=by
 have Q:=u;obtain ⟨A,cp,rfl,hC⟩:=u.toC;have O:av (· < w.heap.size) w _ n:=Q.mono fun b _ h=>h;have HV:=hid O;have HW:=hid hw;have HC:=hid M;clear Q u hC O hw M;refine callsIn_of_wp_marks Tryz.func147 rfl trivial ?_ rfl;simp only [Tryz.ntmps147,List.size_toArray,List.length_cons,List.length_nil,Nat.reduceAdd,Nat.reduceSub,Array.replicate_succ,Array.replicate_zero,List.push_toArray,List.append_toArray,List.nil_append,List.cons_append]
 gi_wp2
 refine ⟨trivial,(nj 8 _ 100 n _ ((HV.out.wide).below fd)).mono ?_⟩;simp only [Value.cells];rintro e w1 ⟨rfl,rfl⟩;obtain ⟨q,o2,z,S,hz⟩:=sG w (nv n A cp) 100
 gi_wp2
 generalize (((w.alloc (.cells (nv n A cp) 41)).alloc (.cells #[.int .i64 0] 3)).alloc (.cells (nv n A cp) 41)).alloc (.cells #[.int .i64 100] 3)=j at *;have I:SeqStopsK Fence.wide (9-1) Tryz.prog 269 #[.pointer (some ⟨w.heap.size+1+1,0,none⟩),.pointer (some ⟨w.heap.size+1+1+1,0,none⟩)] lU (lT w.heap.size (w.heap.size+1)) (fun ys=>ys.map (·.2.1)=aG 100 n) (fun _=>True) (aG 100 n).length j:=
  fun l J Jx W N hJ hJx hY h0=>lV l w.heap.size (w.heap.size+1) 8 100 _ n J Jx (fun s W o hs=>hJ s W _ none hs (World.grownBy_alloc W o none) (fun r e=>by cases e)) hY W _ _ A cp rfl (by omega) (o2.below N (by omega)) (z.below N (by omega))
   (HV.out.keep fun b hb _=>(N.block b (by omega)).trans (S.block b hb)) HW.out (Nat.le_trans S.size N.size) (by have:=N.size;omega) h0
 have U:=hid I;obtain ⟨oc,of⟩:j.cell? ⟨w.heap.size+1,0,none⟩=some (.int .i64 0)∧j.frozen? ⟨w.heap.size+1,0,none⟩=false:=⟨aA q,q.frozen 0⟩;clear I q o2 z;refine wpIn_rangeFunc_ownF (w0:=j) rfl (by omega) (gf:=269) (lb:=#[.pointer (some ⟨w.heap.size+1+1,0,none⟩),.pointer (some ⟨w.heap.size+1+1+1,0,none⟩)]) rfl trivial iZ U.out (fun h k=>h.trans k) (fun W l o o'=>pe S.size W l o o') (Below.refl _ _) (fun _=>rfl)
  (fun pre W=>(W.cell? ⟨w.heap.size+1,0,none⟩=some (.int .i64 (pre.length:Int))∧W.frozen? ⟨w.heap.size+1,0,none⟩=false)∧Below w.heap.size w W) (fun _ _ _=>False)
  (OwnFrom.and (Own.from (fun s A B row hs hg hr=>⟨Go.cell_kept hs.1 hg hr,(Go.frozen_kept hs.1 hg hr).trans hs.2⟩) _) (ownFrom_below (Nat.le_refl _) (by omega)))
  (fun _ _ _ _ _ hs _ _=>hs) ⟨⟨oc,of⟩,S⟩
  (fun x => { tmps:=#[.agg (nv n A cp),.pointer (some ⟨w.heap.size,0,none⟩),.int .i64 0,.pointer (some ⟨w.heap.size+1,0,none⟩),.agg (nv n A cp),
   .func (.func 269) #[] #[.pointer (some ⟨w.heap.size+1+1,0,none⟩),.pointer (some ⟨w.heap.size+1+1+1,0,none⟩)],x.1,.int .i64 (x.2.1:Int),undef,undef,undef],defers:=[] }) ?assign ?body ?done ?stop
 case assign=>
  intro l x W K hK;unfold lU
  gi_wp2
  rw [wm];exact hK
 case body=>
  rintro l pre x W ⟨⟨M,hf⟩,hb⟩ hl;have ga:=Nat.lt_of_lt_of_le hl HC.out;have y:=hid hb;have gb:=hb.size;clear hb hl
  gi_wp2
  refine ⟨KeepsOthers.setCell _ _ _,⟨(Below.refl _ _).setCell (p:=⟨w.heap.size+1,0,none⟩) (by show w.heap.size≤w.heap.size+1;omega) _,fun k hk _=>Below.heap_setCell W ⟨w.heap.size+1,0,none⟩ _ k hk⟩,⟨?_,?_⟩,y.out.setCell (p:=⟨w.heap.size+1,0,none⟩) (by show w.heap.size≤w.heap.size+1;omega) _⟩
  ·rw [World.cell?_setCell_same' _ _ _ (by rw [M];rfl)];simp
  ·rw [World.frozen?_setCell];exact hf
 case done=>
  rintro D ys W hD hys ⟨⟨M,hf⟩,hb⟩ hK;have y:=hid (hb.trans (pe (OB:=0) S.size W D _ (.deferred none) hD hK rfl rfl).bel);have HY:=hid (show ys.length=(aG 100 n).length by rw [←hys,List.length_map]);clear hb hys
  gi_wp2
  refine ⟨by simp,.inl ⟨_,_,rfl,run_takeDeferred hK,?_⟩⟩;exact ⟨_,results_tmp rfl _ _ _,by rw [←HY.out];rfl,y.out⟩
 case stop=>rintro D c pre W _ _ h _;exact h.elim
def uG (l:List Nat):Nat:=l.foldl (fun d l=>max d (102-l)) 0
theorem sI (l:List Nat) (x:Nat):uG (l++[x])=max (uG l) (102-x):=by unfold uG;rw [List.foldl_append];rfl
theorem uH (l:List Nat):uG l≤102:=((eY l 0 102).2 ⟨by omega,fun _ _=>by omega⟩)
theorem pX (v:Value) (n:Nd) (w:World) (q:bo w v n) (hw:nS 101 n) :
  CallsIn Fence.wide 9 Tryz.prog 146 #[v] w fun e w'=>e=.returned (.int .i64 (dS n:Int))∧Below w.heap.size w w':=by
 have O:=q;obtain ⟨A,cp,rfl,hC⟩:=q.toC;have N:av (· < w.heap.size) w _ n:=O.mono fun b _ h=>h;have HV:=hid N;have HW:=hid hw;clear O q hC N hw;refine callsIn_of_wp_marks Tryz.func146 rfl trivial ?_ rfl;simp only [Tryz.ntmps146,List.size_toArray,List.length_cons,List.length_nil,Nat.reduceAdd,Nat.reduceSub,Array.replicate_succ,Array.replicate_zero,List.push_toArray,List.append_toArray,List.nil_append,List.cons_append]
 gi_wp2
 refine ⟨trivial,(nj 8 _ 101 n _ ((HV.out.wide).below fd)).mono ?_⟩;simp only [Value.cells];rintro e w1 ⟨rfl,rfl⟩;obtain ⟨j,z,y,Q,hz⟩:=sG w (nv n A cp) 101
 gi_wp2
 generalize (((w.alloc (.cells (nv n A cp) 41)).alloc (.cells #[.int .i64 0] 3)).alloc (.cells (nv n A cp) 41)).alloc (.cells #[.int .i64 101] 3)=U at *;have I:SeqStopsK Fence.wide (9-1) Tryz.prog 269 #[.pointer (some ⟨w.heap.size+1+1,0,none⟩),.pointer (some ⟨w.heap.size+1+1+1,0,none⟩)] lU (lT w.heap.size (w.heap.size+1)) (fun ys=>ys.map (·.2.1)=aG 101 n) (fun _=>True) (aG 101 n).length U:=
  fun l J Jx W M hJ hJx hY h0=>lV l w.heap.size (w.heap.size+1) 8 101 _ n J Jx (fun s W o hs=>hJ s W _ none hs (World.grownBy_alloc W o none) (fun r e=>by cases e)) hY W _ _ A cp rfl (by omega) (z.below M (by omega)) (y.below M (by omega))
   (HV.out.keep fun b hb _=>(M.block b (by omega)).trans (Q.block b hb)) HW.out (Nat.le_trans Q.size M.size) (by have:=M.size;omega) h0
 have S:=hid I;obtain ⟨oc,of⟩:U.cell? ⟨w.heap.size+1,0,none⟩=some (.int .i64 0)∧U.frozen? ⟨w.heap.size+1,0,none⟩=false:=⟨aA j,j.frozen 0⟩;clear I j z y;refine wpIn_rangeFunc_ownF (w0:=U) rfl (by omega) (gf:=269) (lb:=#[.pointer (some ⟨w.heap.size+1+1,0,none⟩),.pointer (some ⟨w.heap.size+1+1+1,0,none⟩)]) rfl trivial iZ S.out (fun h k=>h.trans k) (fun W l o o'=>pe Q.size W l o o') (Below.refl _ _) (fun _=>rfl)
  (fun pre W=>(W.cell? ⟨w.heap.size+1,0,none⟩=some (.int .i64 (uG (pre.map (·.2.1)):Int))∧W.frozen? ⟨w.heap.size+1,0,none⟩=false)∧Below w.heap.size w W) (fun _ _ _=>False)
  (OwnFrom.and (Own.from (fun s A B row hs hg hr=>⟨Go.cell_kept hs.1 hg hr,(Go.frozen_kept hs.1 hg hr).trans hs.2⟩) _) (ownFrom_below (Nat.le_refl _) (by omega)))
  (fun _ _ _ _ _ hs _ _=>hs) ⟨⟨oc,of⟩,Q⟩
  (fun x => { tmps:=#[.agg (nv n A cp),.pointer (some ⟨w.heap.size,0,none⟩),.int .i64 0,.pointer (some ⟨w.heap.size+1,0,none⟩),undef,.int .i64 (x.2.1:Int),.agg (nv n A cp),
   .func (.func 269) #[] #[.pointer (some ⟨w.heap.size+1+1,0,none⟩),.pointer (some ⟨w.heap.size+1+1+1,0,none⟩)],x.1,.int .i64 (x.2.1:Int),undef,undef,undef,undef,undef],defers:=[] }) ?assign ?body ?done ?stop
 case assign=>
  intro l x W K hK;unfold lU
  gi_wp2
  exact hK
 case body=>
  rintro l pre x W ⟨⟨hc,hf⟩,hb⟩ hl;have ga:=x.2.2;have gb:=uH (pre.map (·.2.1));have HS:=hid (sI (pre.map (·.2.1)) x.2.1);generalize uG (pre.map (·.2.1))=dd at *;have u:=hid hb;have gd:=hb.size;clear hb hl
  gi_wp2
  refine ⟨KeepsOthers.setCell _ _ _,⟨(Below.refl _ _).setCell (p:=⟨w.heap.size+1,0,none⟩) (by show w.heap.size≤w.heap.size+1;omega) _,fun k hk _=>Below.heap_setCell W ⟨w.heap.size+1,0,none⟩ _ k hk⟩,⟨?_,?_⟩,u.out.setCell (p:=⟨w.heap.size+1,0,none⟩) (by show w.heap.size≤w.heap.size+1;omega) _⟩
  ·rw [World.cell?_setCell_same' _ _ _ (by rw [hc];rfl),List.map_append,List.map_singleton,HS.out];rw [show max (dd:Int) (102-(x.2.1:Int))=((max dd (102-x.2.1):Nat):Int) by omega]
  ·rw [World.frozen?_setCell];exact hf
 case done=>
  rintro D ys W hD hys ⟨⟨hc,hf⟩,hb⟩ hK;have u:=hid (hb.trans (pe (OB:=0) Q.size W D _ (.deferred none) hD hK rfl rfl).bel);have HY:=hid (show uG (ys.map (·.2.1))=dS n by rw [hys];rfl);clear hb hys
  gi_wp2
  refine ⟨by simp,.inl ⟨_,_,rfl,run_takeDeferred hK,?_⟩⟩;exact ⟨_,results_tmp rfl _ _ _,by rw [←HY.out];rfl,u.out⟩
 case stop=>rintro D c pre W _ _ h _;exact h.elim
end
end Go.Proofs.YtmmjgmcfdnkomaaGreatDoor
