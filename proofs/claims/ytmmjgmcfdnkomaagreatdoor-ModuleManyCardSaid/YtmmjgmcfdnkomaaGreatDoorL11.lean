/-
  Parts of the proof: Mfile3 Mawake. By an AI agent.
-/
import Derived.Test.YtmmjgmcfdnkomaaGreatDoorL10
import Derived.Test.YtmmjgmcfdnkomaaGreatDoorL08
import Derived.Test.YtmmjgmcfdnkomaaGreatDoorL09
import Derived.Lib.SmallJoins
set_option maxRecDepth 100000
set_option maxHeartbeats 8000000
namespace Go.Proofs.YtmmjgmcfdnkomaaGreatDoor
section
open Go.RowKit Go.Lib Go.Proofs
attribute [local go_sem ↓] Go.wp_at_zero Go.wp_at_succ
attribute [local go_sem] dg dh di dk
theorem i7 (A0:Option Addr) (c:Nat) (s:ByteArray) (w:World) (O:aL w A0 c s) (j:cI w) (L N:List aV) (q:fT s=some (L,N)) (hg:L.all lR=true) (hz:∀ t∈L,t.text.size≤65536) (M:L.length≤65537)
  (n:Nd) (s1:St) (hP:lX ⟨L,(s.size:Int)⟩ ⟨0,false,-1⟩=.ok n s1) (x:s1.at_=L.length) (hr:dy n=true) (K:nS 101 n) (D:(aG 100 n).length≤1000000000) :
  Calls Tryz.prog 32 #[.slice A0 s.size c] w fun e w'=>∃ v,e=.returned (.tuple #[v,.int .i64 0,.int .i64 0])∧bo w' v n∧Below w.heap.size w w':=by have gp:∀ (fn:Fn) (first cap:Array Value) (w:World),(Instr.makeFunc fn first cap).run Tryz.prog w=.ok (.func fn first cap) w:=fun _ _ _ _=>rfl;have J:Below w.heap.size w (w.alloc (.cells l6 41)):=(Below.refl _ _).alloc (Nat.le_refl _) _;have ge:ac (w.alloc (.cells l6 41)) w.heap.size 41 l6:=ac.new w _ _;have o:aL (w.alloc (.cells l6 41)) A0 c s:=O.below J;have gi:=hid (tW A0 c s (w.alloc (.cells l6 41)) o (j.below J) L N q hg hz M);(have gn:0<w.heap.size:=by obtain ⟨m,h⟩:=j.tab;exact World.block_lt_of_cell? w _ h);have HT:=hid j;clear O o j q hg hz M;(go_enter Tryz.func32,Tryz.ntmps32);(go_wp2_with fail);refine gi.out.mono ?_;rintro e w1 ⟨E,rfl,S,gl,I⟩;(have Q:(w.alloc (.cells l6 41)).heap.size=w.heap.size+1:=by simp);rw [Q] at gl;have U:=ah J I;have gd:=ge.bl I;have gk:=I.size;rw [Q] at gk;have z:=(p5 E).part w1;have gg:=S.c;have r:=S.at_;have y:=(HT.out.below U).tab;clear gi ge J Q I S;have gj:=hid (tV E 60 #[.pointer (some ⟨E.R,0,none⟩)] #[] lX ⟨0,false,-1⟩ s1 n w1 r oF (by simpa using z) (by rw [gg];exact hP) (by rw [gg];exact x) y (by omega) (⟨#[102,105,108,101]⟩:BA) true fun w v j O=>by rw [←hr];exact lW v n w j O K D);clear r z hP y K D;(go_wp2_with fail);refine gj.out.mono ?_;rintro e w2 ⟨⟨v,rfl,O⟩,u⟩;have gm:=U.trans (eV u (B:=w.heap.size) (by omega) (by omega));have gb:=gd.grown u;obtain ⟨A,cp,rfl,hC⟩:=O.toC;obtain ⟨d0,d1,d2,d3,e0,e1,e2,e3⟩:=aJ gb;clear gd U gj hC;(go_wp2_with fail);have ga:=eo gb (.int .i64 n.kind) (.string n.text) (.slice A n.kids.length cp) (.int .i64 n.pos);have k:=O.kept (fg (X:=fun b=>w1.heap.size≤b) (wk:=w2) (g:=w.heap.size) (fun b hb=>by have hb:w1.heap.size≤b:=hb;omega) (.int .i64 n.kind) (.string n.text) (.slice A n.kids.length cp) (.int .i64 n.pos));(have gh:Below w.heap.size w (fe w2 w.heap.size (.int .i64 n.kind) (.string n.text) (.slice A n.kids.length cp) (.int .i64 n.pos)):=by unfold fe;exact (((gm.setCell (Nat.le_refl _) _).setCell (Nat.le_refl _) _).setCell (Nat.le_refl _) _).setCell (Nat.le_refl _) _);unfold fe at ga k gh;refine bodyPost_ret (lw rfl _ (by rfl) (by rfl) (by rfl) ga) rfl ?_;exact ⟨_,rfl,k.wide,gh⟩
theorem nn (A:Option Addr) (c:Nat) (w:World) (D:aL w A c mt) (J:cI w) :
  Calls Tryz.prog 32 #[.slice A mt.size c] w fun e w'=>∃ v,e=.returned (.tuple #[v,.int .i64 0,.int .i64 0])∧bo w' v ⟨1,(⟨#[109,97,105,110]⟩:BA),[],18⟩∧Below w.heap.size w w':=
 i7 A c mt w D J uX.1 uX.2 mq (by decide +kernel) (by decide +kernel) (by decide +kernel) _ ⟨3,false,-1⟩ (by kernel_rfl) rfl (by decide +kernel) ⟨⟨Nat.zero_le _,by decide +kernel⟩,fun k I=>by cases I⟩ (by decide +kernel)
theorem no (A:Option Addr) (c:Nat) (w:World) (D:aL w A c mu) (J:cI w) :
  Calls Tryz.prog 32 #[.slice A mu.size c] w fun e w'=>∃ v,e=.returned (.tuple #[v,.int .i64 0,.int .i64 0])∧bo w' v ⟨1,(⟨#[109,97,105,110]⟩:BA),[],0⟩∧Below w.heap.size w w':=
 i7 A c mu w D J uY.1 uY.2 mr (by decide +kernel) (by decide +kernel) (by decide +kernel) _ ⟨3,false,-1⟩ (by kernel_rfl) rfl (by decide +kernel) ⟨⟨Nat.zero_le _,by decide +kernel⟩,fun k I=>by cases I⟩ (by decide +kernel)
end
section
open Go.RowKit Go.Lib Go.Proofs Go.Joins
attribute [local go_sem ↓] Go.wp_at_zero Go.wp_at_succ
theorem nu (l:List an) (A:Option Addr) (c:Nat) (Am:Option Addr) (cm:Nat) (sm:ByteArray) (ls:List (List ByteArray)) (w:World) (I:sm.size≤65536) (D:aL w Am cm sm) (S:ay w) (J:ev sm=ls) (K:ls=[dA]∨ls=[dA,iq])
  (N:ae w w.heap.size 2 A l.length (cB (l.map an.fil))) (O:l.length≤64) (M:∀ x∈l,x.name.size≤1000) (U:lI (l.map an.fil)) (Q:∀ i (h:i<l.length),bB (l.map an.fil) i=true→l[i].C w) :
  Calls Tryz.prog 9 #[.slice Am sm.size cm,.slice A l.length c,.slice none 0 0] w (r7 (e8 ls.length).2.1 (ar l l.length) (aE l l.length) w):=
 callsIn_wide.1 (r8 0 l A c Am cm sm ls w I D S J K N O M U Q)
def aH (s:ByteArray):Array Value:=s.data.map fun b=>.int .u8 (b.toNat:Int)
theorem nw {w:World} {b:Nat} {s:ByteArray} {m:Nat × Nat} (h:w.heap[b]? = some (.cells (aH s) 5 m)):aL w (some ⟨b,0,none⟩) s.size s:=by refine .inr ⟨b,0,rfl,Nat.le_refl _,(Array.getElem?_eq_some_iff.1 h).1,fun i hi=>?_⟩;have D:=cell_of_block h (0+i);rw [D];unfold aH;rw [Nat.zero_add,Array.getElem?_map,Array.getElem?_eq_getElem (xs:=s.data) hi];rfl
def nx:ByteArray:=⟨#[109,111,100,117,108,101,32,97,10,103,111,32,49,46,50,49]⟩
def iw:ByteArray:=⟨#[109,111,100,117,108,101,32,97]⟩
theorem p9:ev nx=[dA,iq]:=by kernel_rfl
theorem oM:ev iw=[dA]:=by kernel_rfl
theorem tY (A:Option Addr) (c:Nat) (w:World) (I:aL w A c mt) (D:cI w):iR mt A c true (⟨#[103,111,49,46,49,56]⟩:BA) 18 18 w:=
 ⟨fun W hb=>uZ A c W (I.below hb) (D.below hb),fun _=>by decide,fun _ W=>rS W,fun W=>rQ W,fun W hb=>nn A c W (I.below hb) (D.below hb),fun W v m hb hn=>i8 v (⟨#[109,97,105,110]⟩:BA) 18 m W (D.below hb).tab hn (by decide)⟩
theorem tZ (A:Option Addr) (c:Nat) (w:World) (I:aL w A c mu) (D:cI w):iR mu A c false (⟨#[]⟩:BA) (-1) 0 w:=
 ⟨fun W hb=>tX A c W (I.below hb) (D.below hb),nofun,nofun,fun W=>oL W,fun W hb=>no A c W (I.below hb) (D.below hb),fun W v m hb hn=>i8 v (⟨#[109,97,105,110]⟩:BA) 0 m W (D.below hb).tab hn (by decide)⟩
theorem ra (n:ByteArray) (v:Value) (h:(fo n && !(fm n).toList.isEmpty)=true):bB [(n,v)] 0=true:=by unfold bB dW;rw [show aU [(n,v)] 0=n from rfl];simpa using h
theorem sW (f:an) (h:bB [f.fil] 0=true):ar [f] 1=[]∧aE [f] 1=[f]:=
 ⟨(fq (l:=[f]) (i:=0) h).trans rfl,(ew (l:=[f]) (i:=0) (by simp) h).trans rfl⟩
theorem rb (x:dr):lI [x]:=pF (by simp) fun j h=>absurd h (by simp)
theorem ix {w:World} {B sz n:Nat} {A:Option Addr} {xs:List Value} (h:ae w B sz A n xs) (K:0<n) (M:0<xs.length):∃ b o,A=some ⟨b,o,none⟩∧b<B∧∀ j u,xs[j]? = some u→w.cell? ⟨b,o+j,none⟩=some u:=by obtain ⟨ad,N,hb,J⟩:=h.2 K;have O:=J 0 xs[0] (List.getElem?_eq_getElem M);have D:=dJ (show w.cell? ad=some xs[0] from O);obtain ⟨b,o,s⟩:=ad;(have I:s=none:=by simpa using D);subst I;exact ⟨b,o,N,hb,fun j u hu=>by have:=J j u hu;rwa [fb] at this⟩
theorem fy (w:World) (hT:cI w):Calls Tryz.prog 8 #[] w fun e w'=>e=.returned (.bool true)∧Below w.heap.size w w':=by
 obtain ⟨K,D⟩:∃ K,K=((w.alloc (.cells (aH nx) 5 (16,17))).alloc (.cells (aH mt) 5 (30,31))).alloc (.cells #[.string (⟨#[97,46,103,111]⟩:BA),.slice (some ⟨w.heap.size+1,0,none⟩) 30 30] 46):=⟨_,rfl⟩
 (have N:Below w.heap.size w K:=by rw [D];exact bel);(have hm:K.heap[w.heap.size]? = some (.cells (aH nx) 5 (16,17)):=by rw [D];exact eG (eG (heap_alloc_new w _) _) _);(have ha:K.heap[w.heap.size+1]? = some (.cells (aH mt) 5 (30,31)):=by rw [D];exact eG (cz (by simp) _) _);(have ga:K.heap.size=w.heap.size+3:=by rw [D];simp);(have hr:ae K K.heap.size 2 (some ⟨w.heap.size+1+1,0,none⟩) 1 [.string (⟨#[97,46,103,111]⟩:BA),.slice (some ⟨w.heap.size+1,0,none⟩) 30 30]:=by refine aX (t:=46) (fr:=(0,0)) ?_ rfl (by omega);rw [D];exact cz (by simp) _);have O:bB ([(⟨(⟨#[97,46,103,111]⟩:BA),mt,some ⟨w.heap.size+1,0,none⟩,30,true,(⟨#[103,111,49,46,49,56]⟩:BA),18,18⟩:an)].map an.fil) 0=true:=ra _ _ (show (fo (⟨#[97,46,103,111]⟩:BA) && !(fm (⟨#[97,46,103,111]⟩:BA)).toList.isEmpty)=true by decide +kernel);have j:=nu [⟨(⟨#[97,46,103,111]⟩:BA),mt,some ⟨w.heap.size+1,0,none⟩,30,true,(⟨#[103,111,49,46,49,56]⟩:BA),18,18⟩] (some ⟨w.heap.size+1+1,0,none⟩) 1 (some ⟨w.heap.size,0,none⟩) 16 nx [dA,iq] K (by decide) (nw hm) (hT.below N).tab p9 (.inr rfl) hr (show 1≤64 by decide) (fun x hx=>by obtain rfl:=List.mem_singleton.1 hx;exact (by decide:(⟨#[97,46,103,111]⟩:BA).size≤1000)) (rb _)
  (fun i h _=>by (obtain rfl:i=0:=by simpa using h);exact tY _ _ _ (nw ha) (hT.below N))
 obtain ⟨e1,e2⟩:=sW ⟨(⟨#[97,46,103,111]⟩:BA),mt,some ⟨w.heap.size+1,0,none⟩,30,true,(⟨#[103,111,49,46,49,56]⟩:BA),18,18⟩ O;rw [show ([(⟨(⟨#[97,46,103,111]⟩:BA),mt,some ⟨w.heap.size+1,0,none⟩,30,true,(⟨#[103,111,49,46,49,56]⟩:BA),18,18⟩:an)].length)=1 from rfl,e1,e2] at j;have j:Calls Tryz.prog 9 #[.slice (some ⟨w.heap.size,0,none⟩) 16 16,.slice (some ⟨w.heap.size+1+1,0,none⟩) 1 1,.slice none 0 0] K _:=j;have j:=hid j;have y:=hid N;have J:=run_convert_bytes_const_at (P:=Tryz.prog) w 22 5 (aH nx) 16 16 w.heap.size rfl Tryz.underlying22 Tryz.underlying5;have I:=run_convert_bytes_const_at (P:=Tryz.prog) (w.alloc (.cells (aH nx) 5 (16,17))) 22 5 (aH mt) 30 30 (w.heap.size+1) (by simp) Tryz.underlying22 Tryz.underlying5;rw [show (aH nx).size=16 by kernel_rfl] at J;rw [show (aH mt).size=30 by kernel_rfl] at I;rw [show aH nx = #[.int .u8 109,.int .u8 111,.int .u8 100,.int .u8 117,.int .u8 108,.int .u8 101,.int .u8 32,.int .u8 97,.int .u8 10,.int .u8 103,.int .u8 111,.int .u8 32,.int .u8 49,.int .u8 46,.int .u8 50,.int .u8 49] by kernel_rfl] at J I D;rw [show aH mt = #[.int .u8 47,.int .u8 47,.int .u8 103,.int .u8 111,.int .u8 58,.int .u8 98,.int .u8 117,.int .u8 105,.int .u8 108,.int .u8 100,.int .u8 32,.int .u8 103,.int .u8 111,.int .u8 49,.int .u8 46,.int .u8 49,.int .u8 56,.int .u8 10,.int .u8 112,.int .u8 97,.int .u8 99,.int .u8 107,.int .u8 97,.int .u8 103,.int .u8 101,.int .u8 32,.int .u8 109,.int .u8 97,.int .u8 105,.int .u8 110] by kernel_rfl] at I D;have r:=hid D;clear hT hm ha ga hr O e1 e2 N D;(go_enter Tryz.func8,Tryz.ntmps8);(go_wp2_with fail);rw [←r.out];refine j.out.mono ?_;rintro e z ⟨q,h | h⟩
 case inr=>exact absurd ⟨rfl,by simp⟩ h.1
 obtain ⟨-,-,Au,cu,xs,rfl,k,A2,c2,ys,rfl,Q⟩:=h;have Q:ys=[]:=Q;subst Q;obtain ⟨bu,ou,rfl,o,S⟩:=ix k (by simp) (by simp);have u0:=S 0 _ rfl;have u1:=S 1 _ rfl;rw [show cg true 18 (e8 [dA,iq].length).2.1=18 from rfl] at u1;simp only [Nat.add_zero] at u0;have u:=hid (ah y.out q);clear S k j r y J I q;simp only [List.length_cons,List.length_nil,Nat.zero_add];have M:Below z.heap.size z (z.alloc (.cells #[.string (⟨#[97]⟩:BA),.slice (some ⟨bu,ou,none⟩) 1 cu] 31)):=bel;have U:=ac.new z 31 #[.string (⟨#[97]⟩:BA),.slice (some ⟨bu,ou,none⟩) 1 cu];have l0:=(U.cell 0).trans rfl;have l1:=(U.cell 1).trans rfl;have v0:=(M.cell (p:=⟨bu,ou,none⟩) o).trans u0;have v1:=(M.cell (p:=⟨bu,ou+1,none⟩) o).trans u1;have gb:=hid (ah u.out M);clear u0 u1 M U u;(go_wp2_with fail);go_ret;exact ⟨rfl,gb.out⟩
end
end Go.Proofs.YtmmjgmcfdnkomaaGreatDoor
