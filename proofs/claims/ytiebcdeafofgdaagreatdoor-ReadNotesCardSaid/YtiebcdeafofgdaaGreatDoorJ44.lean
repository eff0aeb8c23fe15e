/-
  Parts of the proof: Pfile Pexpr Pawk Pawake Gord Vput Ppl. By an AI agent.
-/
import Derived.Test.YtiebcdeafofgdaaGreatDoorJ42
import Derived.Test.YtiebcdeafofgdaaGreatDoorJ43
import Derived.Test.YtiebcdeafofgdaaGreatDoorJ04
import Derived.Test.YtiebcdeafofgdaaGreatDoorJ05
import Derived.Lib.SmallJoins
import Derived.Sort.Walk0
import Derived.Shelf.SlSortCmp.Insertion
import Derived.Lib.SlicesCompact
import Derived.Laws.StructEq
set_option maxRecDepth 100000
set_option maxHeartbeats 8000000
namespace Go.Proofs.YtiebcdeafofgdaaGreatDoor
section
open Go.RowKit Go.Lib Go.Proofs
def fG:eB:=pv 200000
theorem eV {s:ByteArray} {L:List bE} (h:bv s=.toks L):cr s=.toks L:=by
 unfold bv at h;cases hs:cr s with
 | err p n=>rw [hs] at h;cases h
 | toks L'=>
  rw [hs] at h;simp only at h;split at h
  ·cases h
  ·injection h with h;rw [h]
theorem ia {s:ByteArray} {L:List bE} (h:cr s=.toks L):s.size≤65536∧L.length≤65537∧∀ t∈L,t.text.size≤65536:=by
 refine ⟨?_,?_,rV h⟩
 ·unfold cr at h;split at h
  ·cases h
  ·omega
 ·unfold cr at h;split at h
  ·cases h
  ·split at h
   ·cases h
   ·cases hs:aU s (s.size+1) 0 [] with
    | bad p=>rw [hs] at h;cases h
    | ok l=>
     rw [hs] at h;injection h with h;subst h;have key:∀ (g i:Nat) (l r:List bE),i≤s.size→fU i l→aU s g i l=.ok r→r.length≤s.size+1:=by
      intro g;induction g with
      | zero=>intro i l r _ _ h;cases h
      | succ g ih=>
       intro i l r hi hv h;unfold aU at h;split at h
       ·rename_i I;cases D:bC s i l with
        | bad p=>rw [D] at h;cases h
        | go j l'=>rw [D] at h;obtain ⟨N,M,J⟩:=lG s i l (by omega) I hv j l' D;exact ih j l' r M J h
       ·injection h with h;subst h;have:=hv.1;unfold cC;split
        ·rw [List.length_append];simp;omega
        ·omega
     have:=key _ _ _ _ (Nat.zero_le _) ⟨by simp,fun t ht=>by simp at ht⟩ hs;omega
theorem rI {s:ByteArray} {L:List bE} (h:cr s=.toks L) (e:Int):sp ⟨L,e⟩:=IG (ia h).2.2 (lw h).nb
theorem ra {b:Prop} {Q:Nd→St→Prop} {n:Nd} {s1:St} {r:cZ Nd} (h:bi b Q r) (e:r=.ok n s1):Q n s1:=by rw [e] at h;exact h
theorem I8 {s:ByteArray} {L:List bE} (O:bv s=.toks L) (E:bN) (w:World) (D:uL E w s L):mA E fG:=by
 (have N:sp E.c:=by rw [D.c];exact rI (eV O) _);(have M:E.c.toks.length≤65537:=by rw [D.c];exact D.few);refine Mk E (DQ E D.tab D.base D.small) (fun g _ s x s1 hs h=>?_) (fun g s x s1 h=>?_) (D5 D.small) N.rg 200000 (by omega)
 ·have J:=(ra ((p9 N g).expr s hs) h).1;have I:=J.cnt;have U:=J.le;exact ⟨I7 x J.ok (by omega),U⟩
 ·rcases Nat.lt_or_ge s.at_ E.c.toks.length with I | I
  ·exact I
  ·exact absurd h (F2 g s x s1 I)
theorem oG {s:ByteArray} {L:List bE} (D:bv s=.toks L):bi True (fun n s1=>bZ ⟨L,(s.size:Int)⟩ 0 0 0 n s1.at_) (cY fG ⟨L,(s.size:Int)⟩ ⟨0,false,-1⟩):=by have I:sp ⟨L,(s.size:Int)⟩:=rI (eV D) _;have J:=(ia (eV D)).2.1;exact (F0 (p9 I 200000) I ⟨0,false,-1⟩ (Nat.zero_le _)).mono (fun _=>by show 3 * (L.length-0)≤_;omega) fun _ _ h=>h
theorem tN (s:ByteArray):dm fG s≠.out:=by
 unfold dm;cases I:bv s with
 | err p n=>exact nofun
 | toks L=>
  have D:=oG I;show dU _ _≠_;cases J:cY fG ⟨L,(s.size:Int)⟩ ⟨0,false,-1⟩ with
  | out=>rw [J] at D;exact absurd trivial D
  | fail p=>exact nofun
  | ok n s1=>
   unfold dU;simp only;split
   ·exact nofun
   ·split <;> exact nofun
theorem rb {c:Cx} {n:Nd} {i0 i sl j:Nat} (h:bZ c i0 i sl n j) (I:c.toks.length≤65537):j≤c.toks.length∧oy 101 n∧(bg 100 n).length≤1000000000:=by have M:=h.cnt;have D:=h.le;have J:=oF 100 n;exact ⟨D,yn 101 n (.inr h.ok) (by omega),by omega⟩
theorem n7 (A0:Option Addr) (c:Nat) (s:ByteArray) (w:World) (I:dr w A0 c s) (hT:iq w) (D:s.size≤1000000000) :
  Calls Tryz.prog 13 #[.slice A0 s.size c] w (pV w (dm fG s)):=by refine yb A0 c s w I hT D fG (fun L E w' ht hfr=>I8 ht E w' hfr) (tN s) (fun L n s1 ht h=>?_);exact rb (c:=⟨L,(s.size:Int)⟩) (ra (oG ht) h) (ia (eV ht)).2.1
theorem ms {s:ByteArray} {L:List bE} (I:bv s=.toks L):bi True (fun n D=>∃ j,bZ ⟨L,(s.size:Int)⟩ 0 0 7 n j∧(D.at_=j∨(D.at_=j+1∧D.at_≤L.length))) (cI fG.expr ⟨L,(s.size:Int)⟩ ⟨0,false,-1⟩):=by have M:sp ⟨L,(s.size:Int)⟩:=rI (eV I) _;have O:=(ia (eV I)).2.1;have N:=(p9 M 200000).expr ⟨0,false,-1⟩ (Nat.zero_le _);unfold cI;refine bi.bind N (fun _=>by show 3 * (L.length-0)+2≤_;omega) fun n D h=>?_;refine bi.ite (fun J=>?_) fun _=>⟨D.at_,h.1,.inl rfl⟩;have:=bx J;exact ⟨D.at_,h.1,.inr ⟨this.1,this.2⟩⟩
theorem AS (s:ByteArray):il fG s≠.out:=by
 unfold il;cases I:bv s with
 | err p n=>exact nofun
 | toks L=>
  have D:=ms I;show iD _ _≠_;cases J:cI fG.expr ⟨L,(s.size:Int)⟩ ⟨0,false,-1⟩ with
  | out=>rw [J] at D;exact absurd trivial D
  | fail p=>exact nofun
  | ok n s1=>
   unfold iD;simp only;split
   ·exact nofun
   ·split <;> exact nofun
theorem AT (s:ByteArray) (w:World) (hT:iq w) (D:s.size≤1000000000) :
  Calls Tryz.prog 16 #[.string s] w (pV w (il fG s)):=by refine yd s w hT D fG (fun L E w' ht hfr=>I8 ht E w' hfr) (AS s) (fun L n s1 ht h=>?_);obtain ⟨j,J,M⟩:=ra (ms ht) h;have I:=rb J (ia (eV ht)).2.1;have N:j≤L.length:=I.1;exact ⟨by omega,I.2⟩
end
section
def pj:ByteArray:=(⟨#[112,97,99,107,97,103,101,32,112,59,32,102,117,110,99,32,102,40,97,32,105,110,116,41,32,105,110,116,32,123,32,114,101,116,117,114,110,32,45,97,32,42,32,50,32,125]⟩:BA)
def yo:ByteArray:=(⟨#[120,91,105,110,116,93,40,49,41]⟩:BA)
def L0 (r:pU):Bool:=match r with
 | .tree n=>decide (n.text=(⟨#[112]⟩:BA))&&match n.kids with
   | [k]=>decide (k.kind=2)
   | _=>false
 | _=>false
def L1 (r:pU):Bool:=match r with
 | .tree n=>decide (n.kind=21)&&match n.kids with
   | k::_=>decide (k.kind=22)
   | _=>false
 | _=>false
theorem Ed:L1 (il fG yo)=true:=by decide +kernel
theorem Ee:L0 (dm fG pj)=true:=by decide +kernel
theorem AU:∃ k b l a r,dm fG pj=.tree (.mk k (⟨#[112]⟩:BA) [.mk 2 b l a] r):=by
 have h:=Ee;cases I:dm fG pj with
 | bad p e=>rw [I] at h;exact absurd h Bool.false_ne_true
 | out=>rw [I] at h;exact absurd h Bool.false_ne_true
 | tree n=>
  rw [I] at h;obtain ⟨k,t,l,r⟩:=n;unfold L0 at h;simp only [Nd.text_mk,Nd.kids_mk,Bool.and_eq_true] at h;obtain ⟨J,D⟩:=h;have J:=of_decide_eq_true J;subst J;split at D
  ·rename_i q;obtain ⟨N,b,M,a⟩:=q;have D:=of_decide_eq_true D;have D:N=2:=D;subst D;exact ⟨k,b,M,a,r,rfl⟩
  ·cases D
theorem AV:∃ t b l a q r,il fG yo=.tree (.mk 21 t (.mk 22 b l a::q) r):=by
 have h:=Ed;cases I:il fG yo with
 | bad p e=>rw [I] at h;exact absurd h Bool.false_ne_true
 | out=>rw [I] at h;exact absurd h Bool.false_ne_true
 | tree n=>
  rw [I] at h;obtain ⟨k,t,l,r⟩:=n;unfold L1 at h;simp only [Nd.kind_mk,Nd.kids_mk,Bool.and_eq_true] at h;obtain ⟨J,D⟩:=h;have J:=of_decide_eq_true J;subst J;split at D
  ·rename_i q rest;obtain ⟨N,b,M,a⟩:=q;have D:=of_decide_eq_true D;have D:N=22:=D;subst D;exact ⟨t,b,M,a,rest,r,rfl⟩
  ·cases D
end
section
open Go.RowKit Go.Lib Go.Proofs Go.Joins
attribute [local go_sem ↓] Go.wp_at_zero Go.wp_at_succ
attribute [local go_sem] aW aX aY aZ
def AW:Array Value:=#[.int .u8 112,.int .u8 97,.int .u8 99,.int .u8 107,.int .u8 97,.int .u8 103,.int .u8 101,.int .u8 32,.int .u8 112,.int .u8 59,.int .u8 32,.int .u8 102,.int .u8 117,.int .u8 110,.int .u8 99,.int .u8 32,.int .u8 102,.int .u8 40,.int .u8 97,.int .u8 32,.int .u8 105,.int .u8 110,.int .u8 116,.int .u8 41,.int .u8 32,.int .u8 105,.int .u8 110,.int .u8 116,.int .u8 32,.int .u8 123,.int .u8 32,.int .u8 114,.int .u8 101,.int .u8 116,.int .u8 117,.int .u8 114,.int .u8 110,.int .u8 32,.int .u8 45,.int .u8 97,.int .u8 32,.int .u8 42,.int .u8 32,.int .u8 50,.int .u8 32,.int .u8 125]
theorem Ef:AW=pj.data.map fun b=>.int .u8 (b.toNat:Int):=by kernel_rfl
theorem Cn (w:World):dr (w.alloc (.cells AW 5 (46,47))) (some ⟨w.heap.size,0,none⟩) 46 pj:=by refine .inr ⟨w.heap.size,0,rfl,by decide +kernel,by simp,fun i hi=>?_⟩;have h:=World.cell?_alloc_mark w AW 5 (46,47) (0+i);rw [h,Ef,Nat.zero_add,Array.getElem?_map,Array.getElem?_eq_getElem (xs:=pj.data) hi];rfl
theorem Co (w:World) (hT:iq w):Calls Tryz.prog 17 #[] w fun e w'=>e=.returned (.bool true)∧Below w.heap.size w w':=by have U:Below w.heap.size w (w.alloc (.cells AW 5 (46,47))):=(Below.refl _ _).alloc (Nat.le_refl _) _;have HF:=n7 (some ⟨w.heap.size,0,none⟩) 46 pj (w.alloc (.cells AW 5 (46,47))) (Cn w) (hT.below U) (by decide +kernel);obtain ⟨k0,b0,l0,a0,r0,hf⟩:=AU;obtain ⟨t1,b1,l1,a1,q1,r1,hx⟩:=AV;rw [hf] at HF;have HF:Calls Tryz.prog 13 #[.slice (some ⟨w.heap.size,0,none⟩) 46 46] (w.alloc (.cells AW 5 (46,47))) _:=HF;have HF:=hid HF;have HX:=hid (fun W (hW:iq W)=>AT yo W hW (by decide +kernel));rw [hx] at HX;have gl:=hid hT;have ge:=run_convert_bytes_const_at (P:=Tryz.prog) w 27 5 AW 46 46 w.heap.size rfl Tryz.underlying27 Tryz.underlying5;unfold AW at ge;clear hf hx hT;(go_enter Tryz.func17,Tryz.ntmps17);(go_wp2_with fail);refine HF.out.mono ?_;rintro e w1 ⟨v,rfl,z,gg⟩;have gd:=U.trans (gg.mono U.size);obtain ⟨A,cp,rfl,hC⟩:=z.toC;obtain ⟨h,D,A2,gn,rfl,-,y,q0,-,-,-,-⟩:=z.kidsV.kid 0 (by simp);simp only [Nd.kids_mk,List.getElem_cons_zero,Nd.kind_mk,Nat.zero_mul,Nat.add_zero] at q0;simp only [Nd.kids_mk,Nd.kind_mk,Nd.text_mk,Nd.pos_mk,List.length_cons,List.length_nil,Nat.zero_add];have O:=gd.alloc gd.size (.cells #[.int .i64 k0,.string (⟨#[112]⟩:BA),.slice (some ⟨h,D,none⟩) 1 cp,.int .i64 r0] 24);have ga:aj (w1.alloc (.cells #[.int .i64 k0,.string (⟨#[112]⟩:BA),.slice (some ⟨h,D,none⟩) 1 cp,.int .i64 r0] 24)) w1.heap.size 24 #[.int .i64 k0,.string (⟨#[112]⟩:BA),.slice (some ⟨h,D,none⟩) 1 cp,.int .i64 r0]:=aj.new w1 _ _;have q2:=(((Below.refl _ w1).alloc (Nat.le_refl _) (.cells #[.int .i64 k0,.string (⟨#[112]⟩:BA),.slice (some ⟨h,D,none⟩) 1 cp,.int .i64 r0] 24)).cell (p:=⟨h,D,none⟩) y).trans q0;(have J:h<(w1.alloc (.cells #[.int .i64 k0,.string (⟨#[112]⟩:BA),.slice (some ⟨h,D,none⟩) 1 cp,.int .i64 r0] 24)).heap.size:=by simp;omega);have gj:=hid (HX.out _ (gl.out.below O));clear gg HF U gd hC ge z q0 HX y;(go_wp2_with fail);refine gj.out.mono ?_;rintro e w2 ⟨v,rfl,z,M⟩;clear gj;have gb:=O.trans (M.mono O.size);obtain ⟨A,N,rfl,hC⟩:=z.toC;obtain ⟨b4,I,A4,gm,rfl,-,q,q4,-,-,-,-⟩:=z.kidsV.kid 0 (by simp);simp only [Nd.kids_mk,List.getElem_cons_zero,Nd.kind_mk,Nat.zero_mul,Nat.add_zero] at q4;simp only [Nd.kids_mk,Nd.kind_mk,Nd.text_mk,Nd.pos_mk,List.length_cons];have gi:=(ga.below M ga.lt).alloc (.cells #[.int .i64 21,.string t1,.slice (some ⟨b4,I,none⟩) (q1.length+1) N,.int .i64 r1] 24);have gh:aj (w2.alloc (.cells #[.int .i64 21,.string t1,.slice (some ⟨b4,I,none⟩) (q1.length+1) N,.int .i64 r1] 24)) w2.heap.size 24 #[.int .i64 21,.string t1,.slice (some ⟨b4,I,none⟩) (q1.length+1) N,.int .i64 r1]:=aj.new w2 _ _;have hA:Below w2.heap.size w2 (w2.alloc (.cells #[.int .i64 21,.string t1,.slice (some ⟨b4,I,none⟩) (q1.length+1) N,.int .i64 r1] 24)):=(Below.refl _ w2).alloc (Nat.le_refl _) _;have q3:=(hA.cell (p:=⟨h,D,none⟩) (Nat.lt_of_lt_of_le J M.size)).trans ((M.cell (p:=⟨h,D,none⟩) J).trans q2);have q5:=(hA.cell (p:=⟨b4,I,none⟩) q).trans q4;have gk:=gb.alloc gb.size (.cells #[.int .i64 21,.string t1,.slice (some ⟨b4,I,none⟩) (q1.length+1) N,.int .i64 r1] 24);obtain ⟨x0,x1,x2,x3,-,-,-,-⟩:=ac gi;obtain ⟨y0,y1,y2,y3,-,-,-,-⟩:=ac gh;clear O gb ga gi gh hA hC z q2 q4 M J q;(go_wp2_with fail);go_ret;exact ⟨rfl,gk⟩
def LC (w:World):Prop:=∀ w',Below w.heap.size w w'→Calls Tryz.prog 17 #[] w' fun e w''=>e=.returned (.bool true)∧Below w'.heap.size w' w''
theorem Cp (w:World) (hT:iq w):LC w:=fun _ hb=>Co _ (hT.below hb)
theorem rJ (W1:World) (t:ByteArray):∃ (W2:World) (A2:Option Addr) (c2:Nat),(Go.convert 9 27 (.string t)).run Tryz.prog W1=.ok (.slice A2 t.size c2) W2∧dr W2 A2 c2 t∧Below W1.heap.size W1 W2∧W2.heap.size=W1.heap.size+1:=
 ⟨_,_,_,run_bytes_of_string (P:=Tryz.prog) W1 9 27 5 t Tryz.underlying9 Tryz.underlying27 Tryz.underlying5,fu t _,((Below.refl _ _).drew.alloc (Nat.le_refl _) _),by show (W1.heap.push _).size=_;simp⟩
end
section
open Go.Sort Go.Lib
abbrev Mh:=Int × Int
def Mm (x y:Mh):Prop:=x.2<y.2∨(x.2=y.2∧x.1<y.1)
instance:DecidableRel Mm:=fun x y=>by unfold Mm;infer_instance
def lN:Nat→Nd→List Nd
 | 0,_=>[]
 | g+1,n=>n::n.kids.flatMap (lN g)
theorem re:∀ (g:Nat) (n:Nd),(lN g n).length=(bg g n).length
 | 0,_=>rfl
 | g+1,n=>by rw [lN,bg,List.length_cons,List.length_cons,List.length_flatMap,List.length_flatMap];congr 2;exact List.map_congr_left fun k _=>re g k
end
section
def mI (q:Nat) (L:List bE):List Bool:=L.foldl (fun F t=>F.set t.pos.toNat true) (List.replicate q false)
theorem Cr (q:Nat) (L:List bE) (t:bE):mI q (L++[t])=(mI q L).set t.pos.toNat true:=by unfold mI;rw [List.foldl_append];rfl
theorem Eh (q:Nat) (L:List bE):(mI q L).length=q:=by
 have key:∀ (L:List bE) (F:List Bool),(L.foldl (fun F t=>F.set t.pos.toNat true) F).length=F.length:=by
  intro L;induction L with
  | nil=>exact fun _=>rfl
  | cons t L ih=>intro F;rw [List.foldl_cons,ih,List.length_set]
 unfold mI;rw [key,List.length_replicate]
theorem Cs (q:Nat) (L:List bE) (t:bE) (D:t∈L) (h:t.pos.toNat<q):(mI q L)[t.pos.toNat]? = some true:=by
 have mono:∀ (L:List bE) (F:List Bool) (j:Nat),F[j]? = some true→(L.foldl (fun F t=>F.set t.pos.toNat true) F)[j]? = some true:=by
  intro L;induction L with
  | nil=>exact fun _ _ h=>h
  | cons u L ih=>
   intro F j h;rw [List.foldl_cons];refine ih _ j ?_;rw [List.getElem?_set];split
   ·rename_i e;have:=(List.getElem?_eq_some_iff.1 h).1;rw [if_pos (by omega)]
   ·exact h
 have key:∀ (L:List bE) (F:List Bool),t∈L→t.pos.toNat<F.length→(L.foldl (fun F t=>F.set t.pos.toNat true) F)[t.pos.toNat]? = some true:=by
  intro L;induction L with
  | nil=>intro F h;simp at h
  | cons u L ih=>
   intro F h hl;rw [List.foldl_cons];rcases List.mem_cons.1 h with rfl | h
   ·refine mono L _ _ ?_;rw [List.getElem?_set_self hl]
   ·exact ih _ h (by rw [List.length_set];exact hl)
 exact key L _ D (by rw [List.length_replicate];exact h)
structure Db (q:Nat) (L:List bE) (x:Nd):Prop where
 ge:0≤x.pos
 lt:x.pos<(q:Int)
 at_:(mI q L)[x.pos.toNat]? = some true∨x.pos=0
 kids:∀ k∈x.kids,k.pos<x.pos→k.pos=0
theorem Dc {c:Cx} : ∀ (g:Nat) {i j:Nat} (n:Nd),(nh n∨aL c i j n)→∀ x∈lN g n,nh x∨∃ i,aL c i j x
 | 0,_,_,n,_,x,D=>by simp [lN] at D
 | g+1,i,j,.mk k t l a,h,x,D=>by
  rw [lN] at D;rcases List.mem_cons.1 D with rfl | D
  ·exact h.imp id fun h=>⟨i,h⟩
  ·obtain ⟨y,I,D⟩:=List.mem_flatMap.1 D;have I:y∈l:=I;rcases h with h | h
   ·have M:l=[]:=h.1;rw [M] at I;simp at I
   ·obtain ⟨-,-,m,-,-,-,J⟩:=dP.1 h;exact Dc g y (J.mem I) x D
theorem IH {L:List bE} {z:Nat} (h:nZ z L) (e:Int) {m:Nat} (D:m<L.length):(am ⟨L,e⟩ m)∈L∧0≤(am ⟨L,e⟩ m).pos∧(am ⟨L,e⟩ m).pos≤(z:Int):=by rw [f7 (c:=⟨L,e⟩) D];have:=List.getElem_mem D;exact ⟨this,h.at_ _ this⟩
theorem LE {L:List bE} {z:Nat} (h:nZ z L) (e:Int) {m k:Nat} (D:m≤k) (I:k<L.length):(am ⟨L,e⟩ m).pos≤(am ⟨L,e⟩ k).pos:=by
 rw [f7 (c:=⟨L,e⟩) I,f7 (c:=⟨L,e⟩) (Nat.lt_of_le_of_lt D I)];rcases Nat.lt_or_ge m k with J | J
 ·exact (List.pairwise_iff_getElem.1 h.up) m k (Nat.lt_of_le_of_lt D I) I J
 ·(obtain rfl:m=k:=by omega);exact Int.le_refl _
theorem Ba {s:ByteArray} {L:List bE} (hs:cr s=.toks L) {i j:Nat} {x:Nd} (O:j≤L.length) (h:nh x∨aL ⟨L,(s.size:Int)⟩ i j x):Db (s.size+1) L x:=by
 have N:=lw hs;rcases h with ⟨h1,h2,-,-⟩ | h
 ·refine ⟨by omega,by omega,.inr h2,fun k hk=>?_⟩;rw [h1] at hk;simp at hk
 ·obtain ⟨k,t,l,a⟩:=x;obtain ⟨-,-,m,h3,h4,I,h6⟩:=dP.1 h;obtain ⟨U,p2,p3⟩:=IH N (s.size:Int) (Nat.lt_of_lt_of_le h4 O);refine ⟨by show 0≤a;rw [I];exact p2,by show a<_;rw [I];omega,.inl ?_,fun y M D=>?_⟩
  ·show (mI (s.size+1) L)[a.toNat]? = some true;rw [I];exact Cs _ L _ U (by omega)
  ·have M:y∈l:=M;have D:y.pos<a:=D;rcases h6.mem M with J | J
   ·exact J.2.1
   ·obtain ⟨ky,ty,ly,ay⟩:=y;obtain ⟨-,-,m',z,q,h9,-⟩:=dP.1 J;have:=LE N (s.size:Int) z (Nat.lt_of_lt_of_le q O);have D:ay<a:=D;rw [I,h9] at D;omega
theorem Bb {s:ByteArray} {L:List bE} (h:cr s=.toks L):L.length≤s.size+1:=by
 unfold cr at h;split at h
 ·cases h
 ·split at h
  ·cases h
  ·cases hs:aU s (s.size+1) 0 [] with
   | bad p=>rw [hs] at h;cases h
   | ok l=>
    rw [hs] at h;injection h with h;subst h;have key:∀ (g i:Nat) (l r:List bE),i≤s.size→fU i l→aU s g i l=.ok r→r.length≤s.size+1:=by
     intro g;induction g with
     | zero=>intro i l r _ _ h;cases h
     | succ g ih=>
      intro i l r hi hv h;unfold aU at h;split at h
      ·rename_i I;cases D:bC s i l with
       | bad p=>rw [D] at h;cases h
       | go j l'=>rw [D] at h;obtain ⟨N,M,J⟩:=lG s i l (by omega) I hv j l' D;exact ih j l' r M J h
      ·injection h with h;subst h;have:=hv.1;unfold cC;split
       ·rw [List.length_append];simp;omega
       ·omega
    exact key _ _ _ _ (Nat.zero_le _) ⟨by simp,fun t ht=>by simp at ht⟩ hs
theorem tO {s:ByteArray} {n:Nd} (h:dm fG s=.tree n):∃ L,bv s=.toks L∧∃ D,cY fG ⟨L,(s.size:Int)⟩ ⟨0,false,-1⟩=.ok n D∧D.at_=L.length∧bZ ⟨L,(s.size:Int)⟩ 0 0 0 n L.length∧cV n=true:=by
 unfold dm at h;cases J:bv s with
 | err p e=>rw [J] at h;cases h
 | toks L=>
  rw [J] at h;have h:dU ⟨L,(s.size:Int)⟩ (cY fG ⟨L,(s.size:Int)⟩ ⟨0,false,-1⟩)=.tree n:=h;cases I:cY fG ⟨L,(s.size:Int)⟩ ⟨0,false,-1⟩ with
  | out=>rw [I] at h;cases h
  | fail p=>rw [I] at h;cases h
  | ok m D=>
   rw [I] at h;unfold dU at h;simp only at h;split at h
   ·cases h
   ·rename_i U;split at h
    ·rename_i M;injection h with h;subst h;have N:=ra (oG J) I;have q:D.at_≤L.length:=N.le;(have O:D.at_=L.length:=by omega);rw [O] at N;exact ⟨L,rfl,D,I,O,N,M⟩
    ·cases h
theorem Bc:∀ (g:Nat) (n:Nd),∀ x∈lN g n,eU x≤eU n
 | 0,n,x,D=>by simp [lN] at D
 | g+1,.mk k t l a,x,D=>by
  rw [lN] at D;rcases List.mem_cons.1 D with rfl | D
  ·exact Nat.le_refl _
  ·obtain ⟨y,I,D⟩:=List.mem_flatMap.1 D;have I:y∈l:=I;have M:=Bc g y x D;have J:=tJ I;rw [aF];omega
theorem Bd {s:ByteArray} {n:Nd} (h:dm fG s=.tree n):∃ L,cr s=.toks L∧(∀ x∈lN 200 n,Db (s.size+1) L x∧x.kids.length≤8 * (s.size+1))∧oy 200 n∧(bg 200 n).length≤8 * (s.size+1):=by
 obtain ⟨L,J,N,-,-,I,-⟩:=tO h;have hs:=eV J;have y:=I.cnt;have q:=oF 200 n;have U:=Bb hs;refine ⟨L,hs,fun x hx=>⟨?_,by have M:=Bc 200 n x hx;obtain ⟨k,t,l,a⟩:=x;have O:=pY l;rw [aF] at M;show l.length≤_;omega⟩,yn 200 n (.inr I.ok) (by have:=(ia hs).2.1;omega),by omega⟩;rcases Dc 200 n (.inr I.ok) x hx with D | ⟨i,D⟩
 ·exact Ba hs (Nat.le_refl _) (i:=0) (.inl D)
 ·exact Ba hs (Nat.le_refl _) (.inr D)
theorem Ga {s:ByteArray} {p k:Int} (h:dm fG s=.bad p k):k≠0:=by
 unfold dm at h;cases D:bv s with
 | err p e=>rw [D] at h;injection h with _ h;subst h;exact mc D
 | toks L=>
  rw [D] at h;have h:dU ⟨L,(s.size:Int)⟩ (cY fG ⟨L,(s.size:Int)⟩ ⟨0,false,-1⟩)=.bad p k:=h;unfold dU at h;split at h
  ·cases h
  ·injection h with _ h;subst h;decide
  ·split at h
   ·injection h with _ h;subst h;decide
   ·split at h
    ·cases h
    ·injection h with _ h;subst h;decide
end
end Go.Proofs.YtiebcdeafofgdaaGreatDoor
