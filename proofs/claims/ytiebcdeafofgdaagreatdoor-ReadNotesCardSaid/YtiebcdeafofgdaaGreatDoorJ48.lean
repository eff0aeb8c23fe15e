/-
  Parts of the proof: Pnotes. By an AI agent.
-/
import Derived.Test.YtiebcdeafofgdaaGreatDoorJ44
import Derived.Test.YtiebcdeafofgdaaGreatDoorJ47
set_option maxRecDepth 100000
set_option maxHeartbeats 8000000
namespace Go.Proofs.YtiebcdeafofgdaaGreatDoor
section
open Go.RowKit Go.Lib Go.Proofs
attribute [local go_sem ↓] Go.wp_at_zero Go.wp_at_succ
attribute [local go_sem] aW aX aY aZ
theorem Es (c:UInt8):(⟨#[47,47,32]⟩++⟨#[]⟩++⟨#[120]⟩++⟨#[c]⟩:ByteArray)=iR c:=by apply rG;rw [bS,bS,bS];rfl
theorem rk {w:World} {A:Option Addr} {c:Nat} {s:ByteArray} (h:dr w A c s) (D:0<s.size):∃ g o,A=some ⟨g,o,none⟩∧w.cell? ⟨g,o,none⟩=some (.int .u8 (aa s 0)):=by
 rcases h with ⟨-,-,rfl⟩ | ⟨g,o,rfl,-,-,I⟩
 ·exact absurd D (by decide)
 ·refine ⟨g,o,rfl,?_⟩;have:=I 0 D;rw [Nat.add_zero] at this;rw [this];congr 2;rw [dy,List.getD_eq_getElem?_getD,List.getElem?_eq_getElem (show 0<(bytes s).length from D)];rfl
theorem GB {s:ByteArray} {n:Nd} (h:dm fG s=.tree n):et 200 n:=by
 obtain ⟨L,M,N,-,-,I,D⟩:=tO h;have O:=I.cnt;have J:oy 100 n:=yn 100 n (.inr I.ok) (by have:=(ia (eV M)).2.1;omega);(have hd:dQ n≤100:=by unfold cV at D;rw [Bool.and_eq_true,decide_eq_true_eq] at D;exact D.1);have key:∀ (k:Nat),et (100+k) n:=by
  intro k;induction k with
  | zero=>exact mU J hd
  | succ k ih=>exact ih.succ
 exact key 100
theorem LJ:(Tryz.prog.info? 5).map (fun i=>(i.zero,i.size,i.bytes))=some (some (.int .u8 0),1,1):=by kernel_rfl
theorem CM (w:World):(Instr.makeSlice 27 (.int .i64 0) (.int .i64 0)).run Tryz.prog w=.ok (.slice (some ⟨w.heap.size,0,none⟩) 0 0) (w.alloc (.cells #[] 5)):=by obtain ⟨i0,M,I,J,D⟩:=info_parts LJ;have h:=run_make (P:=Tryz.prog) w 27 5 i0 (.int .u8 0) Tryz.underlying27 M I .i64 .i64 0 0 (by omega) (Int.le_refl _) (by rw [D];omega) (by omega);rw [h];(have e:madeCells (Value.int .u8 0).cells (Int.toNat 0 * i0.size) = #[]:=by rw [show Int.toNat 0 * i0.size=0 from Nat.zero_mul _];unfold madeCells;simp);rw [e];rfl
theorem Et (w:World) (b:Nat):(convert 27 9 (.slice (some ⟨b,0,none⟩) 0 0)).run Tryz.prog w=.ok (.string ⟨#[]⟩) w:=
 run_convert_whole (P:=Tryz.prog) w 27 5 9 Tryz.underlying27 Tryz.underlying5 Tryz.underlying9 b 0 ⟨#[]⟩ (fun i hi=>absurd hi (Nat.not_lt_zero i)) 0
theorem GC (w:World) (g c:Nat) (b:UInt8) (h:w.cell? ⟨g,0,none⟩=some (.int .u8 (b.toNat:Int))):(convert 27 9 (.slice (some ⟨g,0,none⟩) 1 c)).run Tryz.prog w=.ok (.string ⟨#[b]⟩) w:=by have hb:b.toNat<256:=UInt8.toNat_lt b;rw [CV w g c (b.toNat:Int) (by omega) (by omega) h];simp
theorem wG (A:Option Addr) (c:Nat) (s:ByteArray) (m:Int) (w:World) (I:dr w A c s) (h:1500<s.size∨(s.size≤1500∧0<s.size∧aa s 0=239)) :
  Calls Tryz.prog 9 #[.slice A s.size c,.int .u8 m] w fun e w'=>e=.returned (.bool true)∧Below w.heap.size w w':=by
 rcases h with M | ⟨M,U,hb⟩
 ·(have D:(s.size:Int)>1500:=by omega);clear I;(go_enter Tryz.func9,Tryz.ntmps9);(go_wp2_with fail);go_ret;exact ⟨rfl,Below.refl _ _⟩
 ·(have D:¬ (s.size:Int)>1500:=by omega);(have O:(s.size:Int)>0:=by omega);(have N:(0:Int)<(s.size:Int):=by omega);obtain ⟨g,o,rfl,J⟩:=rk I U;rw [hb] at J;clear I hb;(go_enter Tryz.func9,Tryz.ntmps9);(go_wp2_with fail);go_ret;exact ⟨rfl,Below.refl _ _⟩
theorem Eu (A:Option Addr) (c:Nat) (s:ByteArray) (m:Nat) (hm:m<256) (w:World) (hv:dr w A c s) (hT:iq w) :
  Calls Tryz.prog 9 #[.slice A s.size c,.int .u8 (m:Int)] w fun e w'=>e=.returned (.bool true)∧Below w.heap.size w w':=by
 by_cases hz:1500<s.size
 ·exact wG A c s m w hv (.inl hz)
 by_cases hl:0<s.size∧aa s 0=239
 ·exact wG A c s m w hv (.inr ⟨by omega,hl.1,hl.2⟩)
 have h9:0<s.size→aa s 0≠239:=fun h0 hb=>hl ⟨h0,hb⟩;(have hs:s.size≤1500:=by omega);(have ho:¬ (s.size:Int)>1500:=by omega);have hc:CI (UInt8.ofNat (97+m % 26)):=⟨⟨m % 26,Nat.mod_lt _ (by decide)⟩,rfl⟩
 have gl:=hid (CL hc s hs h9);have gz:=lQ (UInt8.ofNat (97+m % 26)) s;have g9:=hid (Cp w hT);have HF:=hid (fun W (hb:Below w.heap.size w W)=>n7 A c s W (hv.below hb) (hT.below hb) (by omega));have HG:=hid (fun (A':Option Addr) (c':Nat) W (hb:Below w.heap.size w W) (ha:dr W A' c' (ed (UInt8.ofNat (97+m % 26)) s))=>n7 A' c' (ed (UInt8.ofNat (97+m % 26)) s) W ha (hT.below hb) (by omega));generalize hcc:UInt8.ofNat (97+m % 26)=cc at *;(have g1:cc.toNat=97+m % 26:=by rw [←hcc,UInt8.toNat_ofNat'];omega);clear hcc;have HV:=hid hv;have gg:=hid (fun p k (h:dm fG s=.bad p k)=>GA (by omega) h);have gu:=hid (fun p k (h:dm fG s=.bad p k)=>Ga h);have gv:=hid (fun n (h:dm fG s=.tree n)=>GB h);have gt:=hid (tN s);(have q0:decide ((s.size:Int)>1500)=false:=by simp;omega);have gw:0<s.size→∃ g o,A=some ⟨g,o,none⟩∧w.cell? ⟨g,o,none⟩=some (.int .u8 (aa s 0)):=fun h0=>rk hv h0;clear hv hT hl;(have q1:IntKind.u8.wrap (97+(m:Int).tmod 26)=(cc.toNat:Int):=by (have e:(m:Int).tmod 26=((m % 26:Nat):Int):=by rw [Int.tmod_eq_emod_of_nonneg (by omega)];omega);rw [e,IntWalk.u8_in _ (by omega),g1];omega);by_cases h0:0<s.size
 case' pos=>(have hh:(s.size:Int)>0:=by omega);(have h1:(0:Int)<(s.size:Int):=by omega);obtain ⟨g,o,rfl,x0⟩:=gw h0;(have g4:((aa s 0:Int)==239)=false:=by rw [beq_eq_false_iff_ne];have:=h9 h0;omega);generalize aa s 0=b0 at *
 case' neg=>(have hh:¬ (s.size:Int)>0:=by omega);have x0:=trivial;have g4:=trivial
 all_goals
  clear gw h9;(go_enter Tryz.func9,Tryz.ntmps9);(go_wp2_with fail);go_cut [5] (fun s5 wx=>s5=.string (iR cc)∧Below w.heap.size w wx)
  case first=>have hy:=fun W g7 h=>GC W g7 1 cc h;(have c1:((w.alloc (.cells #[] 5)).alloc (.cells #[.int .u8 (cc.toNat:Int)] 5)).drew.cell? ⟨w.heap.size+1,0,none⟩=some (.int .u8 (cc.toNat:Int)):=by simp [go_sem]);(have c2:(w.alloc (.cells #[.int .u8 (cc.toNat:Int)] 5)).drew.cell? ⟨w.heap.size,0,none⟩=some (.int .u8 (cc.toNat:Int)):=by simp [go_sem]);(have c3:((w.alloc (.cells #[.int .u8 (cc.toNat:Int)] 5)).alloc (.cells #[] 5)).drew.cell? ⟨w.heap.size,0,none⟩=some (.int .u8 (cc.toNat:Int)):=by simp [go_sem]);have hr:=CM;have g1:=Et;go_region_law (fail);all_goals (go_wp2_with fail);go_meet;exact ⟨congrArg Value.string (Es cc),(((Below.refl _ _).alloc (Nat.le_refl _) _).alloc (by simp) _).drew⟩
  case rest=>
   rename World=>wc;obtain ⟨rfl,hB⟩:=hcut;have y:=hid (HF.out wc hB);clear x0 g4 q1 HF;cases hO:dm fG s with
   | out=>exact absurd hO gt.out
   | bad p k=>
    have hk:=gu.out p k hO;have hp:=gg.out p k hO;have J:=gl.out;rw [hO] at y J;cases hQ:dm fG (ed cc s) with
    | out=>rw [hQ] at J;exact J.elim
    | tree m=>rw [hQ] at J;exact J.elim
    | bad q k2=>rw [hQ] at J HG;obtain ⟨rfl,hq⟩:=J;clear hO hQ gl gu gg gv gt;(go_wp2_with fail);refine y.out.mono ?_;rintro e w1 ⟨rfl,gk⟩;have gd:=hB.trans (gk.mono hB.size);have U:=gd.alloc gd.size (.cells aV 24);have gi:=(HV.out.below U).conv;obtain ⟨W2,A2,c2,gh,z,M,he⟩:=rJ (w1.alloc (.cells aV 24)) (iR cc++⟨#[10,47,42,32,121,32,42,47,32]⟩++s++⟨#[10]⟩++iR cc);have O:=U.trans (M.mono U.size);have D:=HG.out A2 c2 W2 O z;rw [gz,show s.size+20=15+s.size+5 by omega] at D;have D:=hid D;(have ht:(k != 0)=true:=by rw [bne_iff_ne];exact hk);clear y HV HG z M;have gp:(iR cc).size=5:=rfl;(have gn:(iR cc++⟨#[10,47,42,32,121,32,42,47,32]⟩).size=14:=by rw [ByteArray.size_append,gp];rfl);(have gm:(iR cc++⟨#[10,47,42,32,121,32,42,47,32]⟩++s).size=14+s.size:=by rw [ByteArray.size_append,gn]);(have hf:(iR cc++⟨#[10,47,42,32,121,32,42,47,32]⟩++s++⟨#[10]⟩).size=15+s.size:=by rw [ByteArray.size_append,gm];show 14+s.size+1=_;omega);unfold aV at gi gh ⊢;(go_wp2_with fail);refine D.out.mono ?_;rintro e w3 ⟨rfl,I⟩;have gb:=O.trans (I.mono O.size);have N:=gb.alloc gb.size (.cells aV 24);(have hw:(k != k)=false:=by simp);have hn:(iR cc).size=5:=rfl;clear gi gh D I;unfold aV at N ⊢;(go_wp2_with fail);all_goals refine (g9.out _ N).mono ?_;rintro e w4 ⟨rfl,gj⟩;(go_wp2_with fail);go_ret;exact ⟨rfl,N.trans (gj.mono N.size)⟩
   | tree n=>
    have g0:=gv.out n hO;have J:=gl.out;rw [hO] at y J;cases hQ:dm fG (ed cc s) with
    | out=>rw [hQ] at J;exact J.elim
    | bad q k2=>rw [hQ] at J;exact J.elim
    | tree m1=>rw [hQ] at J HG;have hi:=hid (show cJ n m1 from J);have g8:=hid g0;clear hO hQ gl gu gg gv gt J g0;(go_wp2_with fail);refine y.out.mono ?_;rintro e w1 ⟨v,rfl,hv,gk⟩;obtain ⟨A1,c1,rfl,hC⟩:=hv.toC;have gs:=(Below.refl w1.heap.size w1).alloc (Nat.le_refl _) (.cells (nv n A1 c1) 24);have gq:aj (w1.alloc (.cells (nv n A1 c1) 24)) w1.heap.size 24 (nv n A1 c1):=aj.new w1 _ _;have gd:=hB.trans (gk.mono hB.size);have U:=gd.trans (gs.mono gd.size);have gy:=hv.wide.below gs;have gi:=(HV.out.below U).conv;obtain ⟨W2,A2,c2,gh,z,M,he⟩:=rJ (w1.alloc (.cells (nv n A1 c1) 24)) (iR cc++⟨#[10,47,42,32,121,32,42,47,32]⟩++s++⟨#[10]⟩++iR cc);have O:=U.trans (M.mono U.size);have ga:=gq.below M gq.lt;have gx:=gy.below M;have D:=HG.out A2 c2 W2 O z;rw [gz,show s.size+20=15+s.size+5 by omega] at D;have D:=hid D;have g5:=hid gx;have gp:(iR cc).size=5:=rfl;(have gn:(iR cc++⟨#[10,47,42,32,121,32,42,47,32]⟩).size=14:=by rw [ByteArray.size_append,gp];rfl);(have gm:(iR cc++⟨#[10,47,42,32,121,32,42,47,32]⟩++s).size=14+s.size:=by rw [ByteArray.size_append,gn]);(have hf:(iR cc++⟨#[10,47,42,32,121,32,42,47,32]⟩++s++⟨#[10]⟩).size=15+s.size:=by rw [ByteArray.size_append,gm];show 14+s.size+1=_;omega);clear y HV HG z M gq gy gs hv hC gk gx;(go_wp2_with fail);refine D.out.mono ?_;rintro e w3 ⟨u,rfl,hu,I⟩;obtain ⟨A4,c4,rfl,hC⟩:=hu.toC;have ge:=(Below.refl w3.heap.size w3).alloc (Nat.le_refl _) (.cells (nv m1 A4 c4) 24);have g2:aj (w3.alloc (.cells (nv m1 A4 c4) 24)) w3.heap.size 24 (nv m1 A4 c4):=aj.new w3 _ _;have gb:=O.trans (I.mono O.size);have N:=gb.trans (ge.mono gb.size);have g3:=(ga.below I ga.lt).below ge (ga.below I ga.lt).lt;have g6:=hid (wF 200 _ _ n m1 _ (by omega) ((g5.out.below I).below ge) (hu.wide.below ge) hi.out g8.out);obtain ⟨x0,x1,x2,x3,-,-,-,-⟩:=ac g3;obtain ⟨y0,y1,y2,y3,-,-,-,-⟩:=ac g2;clear gi gh D I ga ge hu hC g3 g2 g5;(go_wp2_with fail);refine g6.out.mono ?_;rintro e w4 ⟨rfl,gj⟩;have gr:=N.trans (gj.mono N.size);have hj:=hid (g9.out _ gr);clear g6 gj x0 x1 x2 x3 y0 y1 y2 y3;(go_wp2_with fail);refine hj.out.mono ?_;rintro e w5 ⟨rfl,hg⟩;(go_wp2_with fail);go_ret;exact ⟨rfl,gr.trans (hg.mono gr.size)⟩
end
end Go.Proofs.YtiebcdeafofgdaaGreatDoor
