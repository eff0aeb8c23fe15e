/-
  Parts of the proof: Place ModPlace Mopen Rsign Rof Rofw. By an AI agent.
-/
import Derived.Test.YtmmjgmcfdnkomaaGreatDoorProg
import Derived.Test.YtmmjgmcfdnkomaaGreatDoorL00
import Derived.WalkKit
import Derived.WalkLawsBesides
import Derived.WalkSpells
import Derived.Lib.Hide
import Derived.Lib.Walk
import Derived.Deep.LoopGhost
import Derived.Lib.OthersKept
import Derived.Laws.BytesArg
import Derived.ChangeSlices
import Derived.BigQuiet
import Derived.Deep.QuietTactic
set_option maxRecDepth 100000
set_option maxHeartbeats 8000000
namespace Go.Proofs.YtmmjgmcfdnkomaaGreatDoor
section
open Go.RowKit Go.Lib
def bN (u:UInt8):List Value:=[.int .u8 (u.toNat:Int)]
theorem lz (u:UInt8):(bN u).length=1:=rfl
def io (s:ByteArray) (i:Nat) (p:Int × Int):Int × Int:=if (Utf8.decode s i).1=10 then (p.1+1,1) else (p.1,p.2+1)
def ax (s:ByteArray) (n:Nat):Nat→Nat→Int × Int→Int × Int
 | 0,_,p=>p
 | f+1,i,p=>if n≤i∨s.size≤i then p else ax s n f (i+(Utf8.decode s i).2) (io s i p)
def bR (s:ByteArray) (n:Int):Int × Int:=if n<0∨(s.size:Int)<n then (0,0) else ax s n.toNat s.size 0 (1,1)
theorem eH (s:ByteArray) (i:Nat) (h:i<s.size):1≤(Utf8.decode s i).2∧i+(Utf8.decode s i).2≤s.size:=by simp only [Utf8.decode];(repeat' split);(all_goals simp_all);all_goals omega
theorem fD (s:ByteArray) (n:Nat):∀ (f f' i:Nat) (p:Int × Int),s.size-i≤f→s.size-i≤f'→ax s n f i p=ax s n f' i p
 | 0,0,_,_,_,_=>rfl
 | 0,f'+1,i,p,h,_=>by rw [ax,ax,if_pos (.inr (by omega))]
 | f+1,0,i,p,_,h=>by rw [ax,ax,if_pos (.inr (by omega))]
 | f+1,f'+1,i,p,h,h'=>by
  rw [ax,ax];split
  ·rfl
  ·rename_i D;have:=(eH s i (by omega)).1;exact fD s n f f' _ _ (by omega) (by omega)
theorem dK (s:ByteArray) (n f i:Nat) (p:Int × Int) (h:n≤i∨s.size≤i):ax s n f i p=p:=by
 cases f with
 | zero=>rfl
 | succ f=>rw [ax,if_pos h]
theorem fE (s:ByteArray) (n i:Nat) (p:Int × Int) (h:i<n) (h':i<s.size):ax s n (s.size-i) i p=ax s n (s.size-(i+(Utf8.decode s i).2)) (i+(Utf8.decode s i).2) (io s i p):=by obtain ⟨f,D⟩:∃ f,s.size-i=f+1:=⟨s.size-i-1,by omega⟩;have:=(eH s i h').1;rw [D,ax,if_neg (by omega)];exact fD s n _ _ _ _ (by omega) (by omega)
theorem eI (i n l c:Int) (O T:Nat) (x y:Value) (w:World) (D:ac w O 50 #[x,y]) (I:ac w T 3 #[.int .i64 n]) :
  Calls Tryz.prog 36 #[.int .i64 i,.agg #[.int .i64 l,.int .i64 c],.pointer (some ⟨O,0,none⟩),.pointer (some ⟨T,0,none⟩)] w fun e w'=>
   e=.returned (.bool (decide (n≤i)))∧w.grownBy w' (some O)∧ac w' O 50 #[.int .i64 l,.int .i64 c]:=by have N:=D.lt;have M:=I.lt;have c0:=D.cell 0;have c1:=D.cell 1;have S:=D.frozen 0;have f1:=D.frozen 1;have J:=I.cell 0;have K:T≠O:=(I.ne_ D (by decide));simp at c0 c1 J;have Q:=hid D;clear D I;(go_enter Tryz.func36,Tryz.ntmps36);(go_wp2_with fail);go_ret;exact ⟨rfl,((da w O 0 _).trans (da _ O 1 _)).trans (World.grownBy_alloc _ _ _),((Q.out.set_ 0 _).set_ 1 _).alloc _⟩
theorem nJ {A:Option Addr} {c B:Nat} {s:ByteArray} {w:World} (h:ae w B 1 A s.size (s.data.toList.flatMap bN)) :
  (convert 22 9 (.slice A s.size c)).run Tryz.prog w=.ok (.string s) w:=by
 rcases Nat.eq_zero_or_pos s.size with I | I
 ·(have J:s=ByteArray.empty:=by obtain ⟨⟨l⟩⟩:=s;have:l=[]:=List.eq_nil_of_length_eq_zero I;subst this;rfl);rw [run_convert_bytes_string w _ _ _ A _ c Tryz.underlying22 Tryz.underlying5 Tryz.underlying9,I,J];rcases A with _ | ad
  ·simp [Conv.bytesToString]
  ·simp [Conv.bytesToString,loadCells,loadCellsFrom]
 ·obtain ⟨b,off,rfl,hb,K⟩:=h.el lz (by omega) (by simp) I;(have J:strOfNums (s.data.toList.map fun u=>(u.toNat:Int))=s:=by (have e:((fun n:Int=>UInt8.ofNat n.toNat) ∘ fun u:UInt8=>(u.toNat:Int))=id:=by funext u;simp);unfold strOfNums;rw [List.map_map,e,List.map_id]);have:=run_convert_bytes_arg w 22 5 Tryz.underlying22 Tryz.underlying5 b off s.size c (s.data.toList.map fun u=>(u.toNat:Int)) (by simp) (fun i hi=>by (have D:i<s.data.toList.length:=by simpa using hi);have:=K i D 0 _ rfl;rw [Nat.mul_one,Nat.add_zero] at this;rw [this,List.getD_eq_getElem?_getD,List.getElem?_map,List.getElem?_eq_getElem D];rfl) 9 Tryz.underlying9;rw [this,J]
theorem bp {w:World} {g:Nat} {t:TypeId} {x y:Value} (h:ac w g t #[x,y]):w.cell? ⟨g,0,none⟩=some x∧w.cell? ⟨g,1,none⟩=some y∧w.frozen? ⟨g,0,none⟩=false∧w.frozen? ⟨g,1,none⟩=false:=by have c0:=h.cell 0;have c1:=h.cell 1;simp at c0 c1;exact ⟨c0,c1,h.frozen 0,h.frozen 1⟩
theorem nK (A:Option Addr) (c:Nat) (s:ByteArray) (n:Nat) (O T:Nat) (x y:Value) (w:World) (gl:s.size≤100000) (gn:n≤s.size) (h:ae w w.heap.size 1 A s.size (s.data.toList.flatMap bN)) (hO:ac w O 50 #[x,y]) (hT:ac w T 3 #[.int .i64 n]) :
  Calls Tryz.prog 35 #[.slice A s.size c,.func (.func 36) #[] #[.pointer (some ⟨O,0,none⟩),.pointer (some ⟨T,0,none⟩)]] w fun e w'=>
   e=.returned (.tuple #[])∧w.grownBy w' (some O)∧ac w' O 50 #[.int .i64 (ax s n s.size 0 (1,1)).1,.int .i64 (ax s n s.size 0 (1,1)).2]:=by
 have gi:∀ o,(convert 22 9 (.slice A s.size c)).run Tryz.prog (w.alloc o)=.ok (.string s) (w.alloc o):=fun o=>nJ (h.alloc (Nat.le_refl _) o);have gq:=hO.lt;have gp:=hT.lt;have S:T≠O:=(hT.ne_ hO (by decide));have HO:=hid hO;have HT:=hid hT;have HR:=hid h;clear hO hT h;generalize hP:ax s n s.size 0 (1,1)=P;have HP:=hid hP;clear hP;(go_enter Tryz.func35,Tryz.ntmps35);(go_wp2_with fail);have i1:((w.alloc (.cells #[.int .i64 1,.int .i64 1] 50)).iter s 0).heap[w.heap.size+1]? = some (.stringIter s 0):=by
  have:=World.iter_heap (w.alloc (.cells #[.int .i64 1,.int .i64 1] 50)) s 0
  rwa [World.size_alloc] at this
 have i2:ac ((w.alloc (.cells #[.int .i64 1,.int .i64 1] 50)).iter s 0) w.heap.size 50 #[.int .i64 1,.int .i64 1]:=(ac.new w _ _).alloc _;have i3:ac ((w.alloc (.cells #[.int .i64 1,.int .i64 1] 50)).iter s 0) O 50 #[x,y]:=(HO.out.alloc _).alloc _;have i4:w.grownBy ((w.alloc (.cells #[.int .i64 1,.int .i64 1] 50)).iter s 0) (some O):=(World.grownBy_alloc w _ _).trans (World.grownBy_alloc _ _ _);go_loopg [5] s.size (fun g s5 wr=>∃ (i:Nat) (l c:Int) (x' y':Value),i≤s.size∧s.size-i≤g∧wr.heap[w.heap.size+1]? = some (.stringIter s i)∧ac wr w.heap.size 50 #[.int .i64 l,.int .i64 c]∧ac wr O 50 #[x',y']∧w.grownBy wr (some O) ∧
  ax s n (s.size-i) i (l,c)=P∧1≤l∧l≤i+1∧1≤c∧c≤i+1)
 case atStart=>exact ⟨0,1,1,x,y,Nat.zero_le _,by omega,i1,i2,i3,i4,HP.out,by omega,by omega,by omega,by omega⟩
 case round=>
  clear i1 i2 i3 i4;obtain ⟨i,l,c,x',y',hi,hg,hit,hp,ho,U,ga,l1,l2,c1,c2⟩:=hrel;have N:=hid ga;have q:=hid hit;have ge:=hid hp;have gg:=hid ho;have K:=hid U;have gd:=hid (HT.out.grown U (fun e=>S (by injection e)));have gj:w.heap.size+1<wr.heap.size:=(Array.getElem?_eq_some_iff.1 hit).1;clear ga hit hp ho U;by_cases M:i<s.size
  ·have hw:=eH s i M;have I:=fun ty=>run_next_any_at (P:=Tryz.prog) wr (w.heap.size+1) s i ty q.out M;generalize hd:Utf8.decode s i=d at hw I;obtain ⟨r,k⟩:=d;have HD:=hid hd;clear hd;simp only at hw I;have z:=hid (iterAt_heap wr (w.heap.size+1) s i (i+k) q.out);have u:ac (wr.iterAt (w.heap.size+1) s (i+k)) w.heap.size 50 #[.int .i64 l,.int .i64 c]:=(iterAt_other wr _ _ s _ (by omega)).trans ge.out;have j3:ac (wr.iterAt (w.heap.size+1) s (i+k)) O 50 #[x',y']:=(iterAt_other wr _ _ s _ (by omega)).trans gg.out;have j4:ac (wr.iterAt (w.heap.size+1) s (i+k)) T 3 #[.int .i64 n]:=(iterAt_other wr _ _ s _ (by omega)).trans gd.out;have j5:w.grownBy (wr.iterAt (w.heap.size+1) s (i+k)) (some O):=⟨K.out.os,K.out.tape,K.out.output,by rw [iterAt_size];exact K.out.size,fun b hb S=>(iterAt_other wr _ _ s _ (by omega)).trans (K.out.block b hb S)⟩
   generalize wr.iterAt (w.heap.size+1) s (i+k)=W1 at I z u j3 j4 j5;have J2:=hid u;have J3:=hid j3;have J4:=hid j4;have J5:=hid j5;have p0:=u.cell 0;have p1:=u.cell 1;simp at p0 p1;clear u j3 j4 j5;by_cases gh:n≤i
   ·(have gb:decide ((n:Int)≤(i:Int))=true:=by simp;omega);have HE:=hid (dK s n (s.size-i) i (l,c) (.inl gh));go_wp2_with (go_at_call 36;refine (eI (i:Int) n l c O T x' y' W1 J3.out J4.out).mono ?_;rintro e w' ⟨rfl,D,J⟩);refine bodyPost_ret (results_none rfl _ _ _) rfl ?_;exact ⟨rfl,J5.out.trans D,by rw [←N.out,HE.out];exact J⟩
   ·(have gb:decide ((n:Int)≤(i:Int))=false:=by simp;omega);have HS:=hid (fE s n i (l,c) (by omega) M);rw [HD.out] at HS;by_cases hr:r=10
    ·subst hr;have j:=hid (show ax s n (s.size-(i+k)) (i+k) (l+1,1)=P by rw [←N.out,HS.out];simp only [io,HD.out,if_true]);go_wp2_with (go_at_call 36;refine (eI (i:Int) n l c O T x' y' W1 J3.out J4.out).mono ?_;rintro e w' ⟨rfl,D,J⟩;obtain ⟨q0,q1,q2,q3⟩:=bp (J2.out.grown D (fun e=>by injection e;omega)));go_roundg (s.size-(i+k))
     case measure=>omega
     case rel=>exact ⟨i+k,l+1,1,.int .i64 l,.int .i64 c,hw.2,Nat.le_refl _,(Below.heap_setCell _ ⟨w.heap.size,1,none⟩ _ (w.heap.size+1) (by show w.heap.size+1≠w.heap.size;omega)).trans ((Below.heap_setCell _ ⟨w.heap.size,0,none⟩ _ (w.heap.size+1) (by show w.heap.size+1≠w.heap.size;omega)).trans ((Below.heap_setCell _ ⟨w.heap.size,1,none⟩ _ (w.heap.size+1) (by show w.heap.size+1≠w.heap.size;omega)).trans ((D.block (w.heap.size+1) (Array.getElem?_eq_some_iff.1 z.out).1 (fun e=>by injection e;omega)).trans z.out))),((((J2.out.grown D (fun e=>by injection e;omega)).set_ 1 _).set_ 0 _).set_ 1 _),(((J.far (p:=⟨w.heap.size,1,none⟩) (by show O≠w.heap.size;omega) _).far (p:=⟨w.heap.size,0,none⟩) (by show O≠w.heap.size;omega) _).far (p:=⟨w.heap.size,1,none⟩) (by show O≠w.heap.size;omega) _),(bQ (bQ (bQ (J5.out.trans D) (Nat.le_refl _) 1 _) (Nat.le_refl _) 0 _) (Nat.le_refl _) 1 _),j.out,by omega,by omega,by omega,by omega⟩
    ·have j:=hid (show ax s n (s.size-(i+k)) (i+k) (l,c+1)=P by rw [←N.out,HS.out];simp only [io,HD.out,hr,if_false]);(have gm:((r:Int)==10)=false:=by simp;omega);go_wp2_with (go_at_call 36;refine (eI (i:Int) n l c O T x' y' W1 J3.out J4.out).mono ?_;rintro e w' ⟨rfl,D,J⟩;obtain ⟨q0,q1,q2,q3⟩:=bp (J2.out.grown D (fun e=>by injection e;omega)));go_roundg (s.size-(i+k))
     case measure=>omega
     case rel=>exact ⟨i+k,l,c+1,.int .i64 l,.int .i64 c,hw.2,Nat.le_refl _,(Below.heap_setCell _ ⟨w.heap.size,1,none⟩ _ (w.heap.size+1) (by show w.heap.size+1≠w.heap.size;omega)).trans ((D.block (w.heap.size+1) (Array.getElem?_eq_some_iff.1 z.out).1 (fun e=>by injection e;omega)).trans z.out),((J2.out.grown D (fun e=>by injection e;omega)).set_ 1 _),(J.far (p:=⟨w.heap.size,1,none⟩) (by show O≠w.heap.size;omega) _),(bQ (J5.out.trans D) (Nat.le_refl _) 1 _),j.out,by omega,by omega,by omega,by omega⟩
  ·(have Q:i=s.size:=by omega);have I:=fun ty=>run_next_end_at (P:=Tryz.prog) wr (w.heap.size+1) s i ty q.out M;obtain ⟨p0,p1,_,_⟩:=bp ge.out;have HE:=hid (dK s n (s.size-i) i (l,c) (.inr (by omega)));have yk:=hid Q;clear Q;go_wp2_with (go_at_call 36;refine (eI (s.size:Int) n l c O T x' y' wr gg.out gd.out).mono ?_;rintro e w' ⟨rfl,D,J⟩);go_end0;exact ⟨rfl,K.out.trans D,by rw [←N.out,HE.out];exact J⟩
theorem ek {s:ByteArray} {n:Int} (h:n<0∨(s.size:Int)<n):bR s n=(0,0):=by rw [bR,if_pos h]
theorem fF {s:ByteArray} {n:Int} (h:¬ (n<0∨(s.size:Int)<n)):bR s n=ax s n.toNat s.size 0 (1,1):=by rw [bR,if_neg h]
theorem uh (A:Option Addr) (c:Nat) (s:ByteArray) (n:Int) (w:World) (M:s.size≤100000) (h:ae w w.heap.size 1 A s.size (s.data.toList.flatMap bN)) :
  Calls Tryz.prog 17 #[.slice A s.size c,.int .i64 n] w fun e w'=>e=.returned (.agg #[.int .i64 (bR s n).1,.int .i64 (bR s n).2])∧Below w.heap.size w w':=by
 by_cases D:n<0∨(s.size:Int)<n
 ·rw [ek D];rcases D with O | O
  ·(go_enter Tryz.func17,Tryz.ntmps17);go_wp2;refine bodyPost_ret (v:=.agg #[.int .i64 0,.int .i64 0]) (by simp [results,Tryz.results17,go_sem]) rfl ⟨rfl,?_⟩;exact (((Below.refl _ w).alloc (Nat.le_refl _) _).alloc (by simp) _).alloc (by simp;omega) _
  ·(have S:decide (n<0)=false:=by simp;omega);(go_enter Tryz.func17,Tryz.ntmps17);go_wp2;refine bodyPost_ret (v:=.agg #[.int .i64 0,.int .i64 0]) (by simp [results,Tryz.results17,go_sem]) rfl ⟨rfl,?_⟩;exact (((Below.refl _ w).alloc (Nat.le_refl _) _).alloc (by simp) _).alloc (by simp;omega) _
 ·rw [fF D];obtain ⟨m,rfl⟩:∃ m:Nat,n=m:=⟨n.toNat,by omega⟩;(have S:decide ((m:Int)<0)=false:=by simp);(have O:decide ((s.size:Int)<(m:Int))=false:=by simp;omega);(have Q:m≤s.size:=by omega);have U:=hid h;clear h D;rw [Int.toNat_natCast];generalize hP:ax s m s.size 0 (1,1)=P;have j:=hid hP;clear hP;(go_enter Tryz.func17,Tryz.ntmps17);(go_wp2_with fail);refine (nK A c s m (w.heap.size+1+1) w.heap.size (.int .i64 0) (.int .i64 0) _ M Q (((U.out.alloc (Nat.le_refl _) _).alloc (by simp) _).alloc (by simp;omega) _ |>.more (by simp;omega)) (ac.new_at (by simp) _ _) (((ac.new w _ _).alloc _).alloc _)).mono ?_;rw [j.out];rintro e w1 ⟨rfl,I,K⟩;have N:=(((ac.new_at (w:=w.alloc (.cells #[.int .i64 m] 3)) (n:=w.heap.size+1) (by simp) 50 #[.int .i64 0,.int .i64 0]).alloc (.cells #[.int .i64 0,.int .i64 0] 50))).grown I (fun e=>by injection e;omega);obtain ⟨a0,a1,a2,a3⟩:=bp N;obtain ⟨q,o,_,_⟩:=bp K;have J:=eV I (B:=w.heap.size) (by omega) (by simp;omega);have k:=hid (((((Below.refl _ w).alloc (Nat.le_refl _) (.cells #[.int .i64 m] 3)).alloc (by simp) (.cells #[.int .i64 0,.int .i64 0] 50)).alloc (by simp;omega) (.cells #[.int .i64 0,.int .i64 0] 50)).trans J);clear J N K;(go_wp2_with fail);refine bodyPost_ret (v:=.agg #[.int .i64 P.1,.int .i64 P.2]) ?_ rfl ⟨rfl,?_⟩
  ·simp [results,Tryz.results17,go_sem,a0,a1]
  ·exact (k.out.setCell (by show _≤w.heap.size+1;omega) _).setCell (by show _≤w.heap.size+1;omega) _
abbrev lA:=ByteArray × Option Addr × Nat × ByteArray
def fc (x:lA):List Value:=[.string x.1,.slice x.2.1 x.2.2.2.size x.2.2.1]
theorem fG (x:lA):(fc x).length=2:=rfl
def iG (w:World) (B:Nat) (xs:List lA):Prop:=∀ x∈xs,ae w B 1 x.2.1 x.2.2.2.size (x.2.2.2.data.toList.flatMap bN)∧x.2.2.2.size≤100000
theorem iG.below {w w':World} {B:Nat} {xs:List lA} (h:iG w B xs) (hb:Below B w w'):iG w' B xs:=fun x hx=>⟨(h x hx).1.below hb,(h x hx).2⟩
def aR (xs:List lA) (file:ByteArray) (n:Int):Int × Int:=
 match xs with
 | []=>(0,0)
 | x::xs=>if x.1=file then bR x.2.2.2 n else aR xs file n
theorem bS (xs:List lA) (file:ByteArray) (n:Int):∀ k,(∀ j (h:j<xs.length),j<k→xs[j].1≠file)→aR xs file n=aR (xs.drop k) file n
 | 0,_=>by simp
 | k+1,h=>by
  cases xs with
  | nil=>simp
  | cons x xs=>have D:x.1≠file:=h 0 (by simp) (by omega);rw [aR,if_neg D,List.drop_succ_cons];exact bS xs file n k (fun j hj hjk=>by have:=h (j+1) (by simpa using hj) (by omega);simpa using this)
theorem db (a b:ByteArray):(a.toList==b.toList)=decide (a=b):=by
 rw [Bool.eq_iff_iff];simp only [beq_iff_eq,decide_eq_true_eq];constructor
 ·intro h;rw [ByteArray.toList_eq,ByteArray.toList_eq] at h;cases a;cases b;congr;exact Array.ext' h
 ·rintro rfl;rfl
theorem lZ (A:Option Addr) (n c:Nat) (xs:List lA) (tag file:ByteArray) (at_:Int) (w:World) (hl:xs.length=n) (hn:n≤1000) (h:ae w w.heap.size 2 A n (xs.flatMap fc)) (hx:iG w w.heap.size xs) :
  Calls Tryz.prog 12 #[.slice A n c,.agg #[.string tag,.string file,.int .i64 at_]] w fun e w'=>e=.returned (.agg #[.int .i64 (aR xs file at_).1,.int .i64 (aR xs file at_).2])∧Below w.heap.size w w':=by
 have HR:=hid h;have HL:=hid hl;have HX:=hid hx;clear h hl hx;generalize hP:aR xs file at_=P;have HP:=hid hP;clear hP;(go_enter Tryz.func12,Tryz.ntmps12);(go_wp2_with fail);have I:=hid (((Below.refl _ w).alloc (Nat.le_refl _) (.cells #[.string tag,.string file,.int .i64 at_] 38)).alloc (by simp) (.cells #[.int .i64 0,.int .i64 0] 50));have U:=hid ((ac.new w 38 #[.string tag,.string file,.int .i64 at_]).alloc (.cells #[.int .i64 0,.int .i64 0] 50));have Q:=hid (ac.new_at (w:=w.alloc (.cells #[.string tag,.string file,.int .i64 at_] 38)) (n:=w.heap.size+1) (by simp) 50 #[.int .i64 0,.int .i64 0]);have z:=hid (show ((w.alloc (.cells #[.string tag,.string file,.int .i64 at_] 38)).alloc (.cells #[.int .i64 0,.int .i64 0] 50)).heap.size=w.heap.size+2 by simp);generalize (w.alloc (.cells #[.string tag,.string file,.int .i64 at_] 38)).alloc (.cells #[.int .i64 0,.int .i64 0] 50)=W0 at I U Q z ⊢;go_loopw [9] (fun i wr=>∃ k:Nat,k≤n∧i=.int .i64 k∧Below (w.heap.size+2) W0 wr∧∀ j (h:j<xs.length),j<k→xs[j].1≠file) (fun i _=>n-(RowKit.intOf i).toNat)
 case atStart=>exact ⟨0,Nat.zero_le _,rfl,Below.refl _ _,fun _ _ h=>by omega⟩
 case round=>
  obtain ⟨k,hk,rfl,hb,o⟩:=hrel;have S:=hid o;have K:=hid hb;(have N:w.heap.size+2≤wr.heap.size:=by rw [←z.out];exact hb.size);clear o hb;by_cases q:k<n
  ·obtain ⟨b,off,rfl,r,hc⟩:=HR.out.el fG (by omega) HL.out q;(have M:k<xs.length:=by rw [HL.out];exact q);have J:=hc k M;have gg:=hid (bS xs file at_ k S.out);have O:=hid (HX.out xs[k] (List.getElem_mem M));have ga:=hid (show xs.drop k=xs[k]::xs.drop (k+1) by rw [List.drop_eq_getElem_cons M]);have y:=hid (show ∀ j (h:j<xs.length),j<k+1→xs[k].1≠file→xs[j].1≠file from fun j hj hjk hne=>by
    by_cases e:j=k
    ·subst e;exact hne
    ·exact S.out j hj (by omega))
   generalize xs[k]=x at J O ga y;obtain ⟨nm,sa,sc,sb⟩:=x;have e0:wr.cell? ⟨b,off+k * 2,none⟩=W0.cell? ⟨b,off+k * 2,none⟩:=K.out.cell (p:=⟨b,off+k * 2,none⟩) (by show b<_;omega);have e1:wr.cell? ⟨b,off+k * 2+1,none⟩=W0.cell? ⟨b,off+k * 2+1,none⟩:=K.out.cell (p:=⟨b,off+k * 2+1,none⟩) (by show b<_;omega);have c0:wr.cell? ⟨b,off+k * 2,none⟩=some (.string nm):=e0.trans ((I.out.cell (p:=⟨b,off+k * 2,none⟩) r).trans (J 0 _ rfl));have c1:wr.cell? ⟨b,off+k * 2+1,none⟩=some (.slice sa sb.size sc):=e1.trans ((I.out.cell (p:=⟨b,off+k * 2+1,none⟩) r).trans (J 1 _ rfl));have g1:=(U.out.below K.out (by omega)).cell 1;have g2:=(U.out.below K.out (by omega)).cell 2;simp at g1 g2;(have gj:b<wr.heap.size:=by omega);(have hH:w.heap.size<wr.heap.size:=by omega);clear e0 e1 hc J;by_cases D:nm=file
   ·(have hq:(nm.toList==file.toList)=true:=by rw [db];simp [D]);have gd:Hid (ae wr (w.heap.size+2) 1 sa sb.size (sb.data.toList.flatMap bN)):=hid (((O.out.1.below I.out).more (by omega)).below K.out);have ge:=hid (show bR sb at_=P by rw [←HP.out,gg.out,ga.out,aR,if_pos D]);clear D;(go_wp2_with fail);refine (uh sa sc sb at_ _ O.out.2 ((gd.out.more N).alloc (Nat.le_refl _) _ |>.more (by simp))).mono ?_;rw [ge.out];rintro e w1 ⟨rfl,u⟩;have gb:=hid ((K.out.alloc N (.cells #[.string nm,.slice sa sb.size sc] 46)).trans (u.mono (by simp;omega)));obtain ⟨a0,a1,a2,a3⟩:=bp (Q.out.below gb.out (by omega));clear u;(go_wp2_with fail);refine bodyPost_ret (v:=.agg #[.int .i64 P.1,.int .i64 P.2]) ?_ rfl ⟨rfl,?_⟩
    ·simp [results,Tryz.results12,go_sem,a0,a1]
    ·exact (I.out.trans (gb.out.mono (by omega))).setCell (by show _≤w.heap.size+1;omega) _ |>.setCell (by show _≤w.heap.size+1;omega) _
   ·(have hq:(nm.toList==file.toList)=false:=by rw [db];simp [D]);(have gi:(nm==file)=false:=by rw [beq_toListBytes];exact hq);have gh:=hid (fun j h hjk=>y.out j h hjk D);clear D;(go_wp2_with fail);go_roundw
    case rel=>exact ⟨k+1,by omega,by go_num,K.out.alloc N _,gh.out⟩
    case measure=>simp [RowKit.intOf];omega
  ·have HE:=hid (show P=(0,0) by have:xs.drop k=[]:=List.drop_eq_nil_of_le (by rw [HL.out];omega);rw [←HP.out,bS xs file at_ k S.out,this];rfl);obtain ⟨a0,a1,a2,a3⟩:=bp (Q.out.below K.out (by omega));(go_wp2_with fail);refine bodyPost_ret (v:=.agg #[.int .i64 0,.int .i64 0]) ?_ rfl ⟨by rw [HE.out],?_⟩
   ·simp [results,Tryz.results12,go_sem,a0,a1]
   ·exact (I.out.trans (K.out.mono (by omega))).setCell (by show _≤w.heap.size+1;omega) _ |>.setCell (by show _≤w.heap.size+1;omega) _
end
section
open Go.RowKit Go.ChangeShapes Go.WideShapes Go.Deep
theorem pg:Tryz.prog.cellsOf 27=2:=by kernel_rfl
theorem ro:Tryz.prog.cellsOf 5=1:=by kernel_rfl
theorem nL {H:Type} {enc:TypeId × Value→H} {w:World} {base:Nat} {spare:Nat→Bool} {held:Bool} {fuel:Nat} {v:Value} {x:DataW H × List MemPlace}
  (h:DataW.trod enc Tryz.prog w base spare held fuel 22 [v]=some x) :
  ∃ (A:Option Addr) (c:Nat) (s:ByteArray),v=.slice A s.size c∧ae w w.heap.size 1 A s.size (s.data.toList.flatMap bN):=by
 rcases open_slice Tryz.underlying22 h with ⟨e,_⟩ | ⟨a,len,cap,m,n,D,Pl,e,_,r,ga,o,_,y⟩
 ·simp only [List.cons.injEq,and_true] at e;exact ⟨none,0,⟨#[]⟩,e,ae.none_⟩
 ·simp only [List.cons.injEq,and_true] at e;(have q:len≤m:=by rw [o];split <;> omega);have K:∀ i,i<len→∃ u:UInt8,∀ j v,(bN u)[j]? = some v→w.cell? (a.add (i * 1+j))=some v:=by
   intro i hil;obtain ⟨cs',Q,U⟩:=y i (by omega);rw [ro] at Q;obtain ⟨z,e1,_,J⟩:=DataW.trod_int Tryz.underlying5 U;subst e1;obtain ⟨_,_,M⟩:=World.cells?_some Q;have S:=M 0 (by omega);simp only [Lit.wf,Bool.and_eq_true,decide_eq_true_eq] at J;have hz:(0:Int)≤z∧z≤255:=J;refine ⟨UInt8.ofNat z.toNat,fun j v I=>?_⟩
   match j,I with
   | 0,I=>simp only [bN,List.getElem?_cons_zero,Option.some.injEq] at I;subst I;(have e2:((UInt8.ofNat z.toNat).toNat:Int)=z:=by rw [UInt8.toNat_ofNat'];omega);rw [e2,Nat.add_zero];rw [Go.Deep.add_add] at S;simpa using S
   | j+1,I=>simp [bN] at I
  obtain ⟨l,O,k⟩:=ei len K;(have N:(⟨l.toArray⟩:ByteArray).size=len:=by simp [ByteArray.size,O]);refine ⟨some a,cap,⟨l.toArray⟩,by rw [N];exact e,?_⟩;rw [N];exact ej (fun _=>rfl) (by omega) O (fun i h j u hu=>k i h j u hu)
def tf (w:World) (cs:List Value):Prop:=
 ∃ (A:Option Addr) (n c:Nat) (l:List lA),cs=[.slice A n c]∧l.length=n∧ae w w.heap.size 2 A n (l.flatMap fc) ∧
   ∀ x∈l,ae w w.heap.size 1 x.2.1 x.2.2.2.size (x.2.2.2.data.toList.flatMap bN)
theorem nM {H:Type} {enc:TypeId × Value→H} {w:World} {base:Nat} {spare:Nat→Bool} {held:Bool} {fuel:Nat} {cs:List Value} {x:DataW H × List MemPlace}
  (h:DataW.trod enc Tryz.prog w base spare held fuel 23 cs=some x):tf w cs:=by
 rcases fC Tryz.underlying23 Tryz.underlying27 (by kernel_rfl) pg h with ⟨rfl,rfl⟩ | ⟨a,len,cap,m,D,Pl,rfl,_,gb,gd,z,rfl,hi⟩
 ·exact ⟨none,0,0,[],rfl,rfl,ae.none_,fun y hy=>by simp at hy⟩
 ·(have ga:len≤m:=by rw [z];split <;> omega);have K:∀ i,i<len→∃ y:lA,(∀ j u,(fc y)[j]? = some u→w.cell? (a.add (i * 2+j))=some u)∧ae w w.heap.size 1 y.2.1 y.2.2.2.size (y.2.2.2.data.toList.flatMap bN):=by
   intro i hil;obtain ⟨ys,n',hD,_,N,Q⟩:=hi i (by omega);obtain ⟨v0,y0,c0,q0,k⟩:=Q 0 _ rfl;obtain ⟨v1,y1,c1,q1,U⟩:=Q 1 _ rfl;obtain ⟨o,S,f0,q⟩:=DataW.trod_string Tryz.underlying9 k;obtain ⟨A,c,s,e1,r⟩:=nL U;simp only [List.cons.injEq,and_true] at S;subst S e1;refine ⟨(o,A,c,s),fun j u I=>?_,r⟩
   match j,I with
   | 0,I=>simp [fc] at I;subst I;exact c0
   | 1,I=>simp [fc] at I;subst I;exact c1
   | j+2,I=>simp [fc] at I
  obtain ⟨l,O,M⟩:=ei len K;refine ⟨some a,len,cap,l,rfl,O,ej (fun _=>rfl) (by omega) O (fun i h j u I=>(M i h).1 j u I),fun y hy=>?_⟩;obtain ⟨i,J,rfl⟩:=List.mem_iff_getElem.1 hy;exact (M i J).2
theorem mw {H:Type} {enc:TypeId × Value→H} {W:World} {base:Nat} {v:Value} {d:DataW H} {p:List MemPlace} (D:Value.okWide Tryz.prog W .any base 23 v) (h:DataW.Trod enc Tryz.prog W 0 (fun _=>true) true 23 v d p) :
  ∃ (A:Option Addr) (n c:Nat) (l:List lA),v=.slice A n c∧l.length=n∧ae W W.heap.size 2 A n (l.flatMap fc)∧∀ x∈l,ae W W.heap.size 1 x.2.1 x.2.2.2.size (x.2.2.2.data.toList.flatMap bN):=by obtain ⟨a1,len,cap,rfl⟩:=okWide_slice Tryz.underlying23 D;obtain ⟨fuel,N⟩:=h;obtain ⟨A,n,c,l,I,M,K,J⟩:=nM N;(obtain ⟨rfl,rfl,rfl⟩:a1=A∧len=n∧cap=c:=by simpa [Value.cells] using I);exact ⟨_,_,_,l,rfl,M,K,J⟩
end
section
open Go.RowKit Go.Lib Go.Proofs
def aa (s:ByteArray) (j:Nat):Nat:=(s.get! j).toNat
theorem eE (s:ByteArray) (j:Nat):aa s j<256:=UInt8.toNat_lt _
theorem re (s:ByteArray) (j:Nat) (h:j<s.data.toList.length):aa s j=(s.data.toList[j]).toNat:=by (have h':j<s.data.size:=by simpa using h);unfold aa ByteArray.get!;simp [getElem!_pos s.data j h']
def dE (d:Nat × Nat):Int:=if d=(65533,1) then -1 else (d.1:Int)
def fa (y0 y1 y2 y3:Nat) (c1 c2 c3:Prop) [Decidable c1] [Decidable c2] [Decidable c3]:Nat × Nat:=
 if y0<128 then (y0,1)
 else if y0 / 32=6∧c1∧y1 / 64=2 then (if 128≤y0 % 32 * 64+y1 % 64 then (y0 % 32 * 64+y1 % 64,2) else (65533,1))
 else if y0 / 16=14∧(c1∧y1 / 64=2)∧(c2∧y2 / 64=2) then (if 2048≤y0 % 16 * 4096+y1 % 64 * 64+y2 % 64∧Utf8.valid ((y0 % 16 * 4096+y1 % 64 * 64+y2 % 64:Nat):Int)=true then (y0 % 16 * 4096+y1 % 64 * 64+y2 % 64,3) else (65533,1))
 else if y0 / 8=30∧(c1∧y1 / 64=2)∧(c2∧y2 / 64=2)∧(c3∧y3 / 64=2) then (if 65536≤y0 % 8 * 262144+y1 % 64 * 4096+y2 % 64 * 64+y3 % 64∧Utf8.valid ((y0 % 8 * 262144+y1 % 64 * 4096+y2 % 64 * 64+y3 % 64:Nat):Int)=true then (y0 % 8 * 262144+y1 % 64 * 4096+y2 % 64 * 64+y3 % 64,4) else (65533,1))
 else (65533,1)
theorem bw (s:ByteArray) (i:Nat):Utf8.decode s i=fa (aa s i) (aa s (i+1)) (aa s (i+2)) (aa s (i+3)) (i+1<s.size) (i+2<s.size) (i+3<s.size):=by unfold fa aa;simp only [Utf8.decode,Nat.add_zero,Bool.and_eq_true,decide_eq_true_eq,beq_iff_eq,ge_iff_le,Utf8.runeError,and_assoc]
section
variable {s:ByteArray} {i:Nat}
theorem rf (h:aa s i<128):Utf8.decode s i=(aa s i,1):=by rw [bw,fa,if_pos h]
theorem t6 (h:194≤aa s i) (h':aa s i≤223) (D:i+1<s.size) (c:128≤aa s (i+1)) (c':aa s (i+1)≤191):Utf8.decode s i=((aa s i-192) * 64+(aa s (i+1)-128),2):=by rw [bw,fa,if_neg (by omega),if_pos (by omega),if_pos (by omega),Prod.mk.injEq];exact ⟨by omega,rfl⟩
theorem eF (h:194≤aa s i) (h':aa s i≤223) (D:¬ (i+1<s.size∧128≤aa s (i+1)∧aa s (i+1)≤191)):Utf8.decode s i=(65533,1):=by rw [bw,fa,if_neg (by omega),if_neg (by omega),if_neg (by omega),if_neg (by omega)]
theorem dF (v:Nat):Utf8.valid (v:Int)=true↔v<55296∨(57344≤v∧v≤1114111):=by simp [Utf8.valid];omega
theorem rg (h:224≤aa s i) (h':aa s i≤239) (M:i+2<s.size) (c:128≤aa s (i+1)) (c':aa s (i+1)≤191) (d:128≤aa s (i+2)) (d':aa s (i+2)≤191)
  (v:Nat) (K:v=(aa s i-224) * 4096+(aa s (i+1)-128) * 64+(aa s (i+2)-128)):Utf8.decode s i=if 2048≤v∧(v<55296∨57344≤v) then (v,3) else (65533,1):=by
 rw [bw,fa,if_neg (by omega),if_neg (by omega),if_pos (by omega)];(have e:aa s i % 16 * 4096+aa s (i+1) % 64 * 64+aa s (i+2) % 64=v:=by omega);rw [e];(have J:v<65536:=by omega);by_cases D:2048≤v∧(v<55296∨57344≤v)
 ·rw [if_pos D,if_pos ⟨D.1,(dF v).2 (by omega)⟩]
 ·rw [if_neg D,if_neg (fun I=>D ⟨I.1,by have:=(dF v).1 I.2;omega⟩)]
theorem bI (h:224≤aa s i) (h':aa s i≤239) (D:¬ (i+2<s.size∧(128≤aa s (i+1)∧aa s (i+1)≤191)∧(128≤aa s (i+2)∧aa s (i+2)≤191))):Utf8.decode s i=(65533,1):=by rw [bw,fa,if_neg (by omega),if_neg (by omega),if_neg (by omega),if_neg (by omega)]
theorem sX (h:240≤aa s i) (h':aa s i≤244) (K:i+3<s.size) (c:128≤aa s (i+1)) (c':aa s (i+1)≤191) (d:128≤aa s (i+2)) (d':aa s (i+2)≤191) (f:128≤aa s (i+3)) (f':aa s (i+3)≤191)
  (v:Nat) (J:v=(aa s i-240) * 262144+(aa s (i+1)-128) * 4096+(aa s (i+2)-128) * 64+(aa s (i+3)-128)):Utf8.decode s i=if 65536≤v∧v≤1114111 then (v,4) else (65533,1):=by
 rw [bw,fa,if_neg (by omega),if_neg (by omega),if_neg (by omega),if_pos (by omega)];(have e:aa s i % 8 * 262144+aa s (i+1) % 64 * 4096+aa s (i+2) % 64 * 64+aa s (i+3) % 64=v:=by omega);rw [e];by_cases D:65536≤v∧v≤1114111
 ·rw [if_pos D,if_pos ⟨D.1,(dF v).2 (by omega)⟩]
 ·rw [if_neg D,if_neg (fun I=>D ⟨I.1,by have:=(dF v).1 I.2;omega⟩)]
theorem bg (h:240≤aa s i) (h':aa s i≤244) (D:¬ (i+3<s.size∧(128≤aa s (i+1)∧aa s (i+1)≤191)∧(128≤aa s (i+2)∧aa s (i+2)≤191)∧(128≤aa s (i+3)∧aa s (i+3)≤191))):Utf8.decode s i=(65533,1):=by rw [bw,fa,if_neg (by omega),if_neg (by omega),if_neg (by omega),if_neg (by omega)]
theorem rh (h:128≤aa s i) (h':aa s i<194∨244<aa s i):Utf8.decode s i=(65533,1):=by
 have hb:=eE s i;rw [bw,fa,if_neg (by omega)];by_cases I:aa s i / 32=6∧i+1<s.size∧aa s (i+1) / 64=2
 ·rw [if_pos I,if_neg (by omega)]
 ·rw [if_neg I,if_neg (by omega)];by_cases D:aa s i / 8=30∧(i+1<s.size∧aa s (i+1) / 64=2)∧(i+2<s.size∧aa s (i+2) / 64=2)∧(i+3<s.size∧aa s (i+3) / 64=2)
  ·rw [if_pos D,if_neg (fun J=>by have:=(dF _).1 J.2;omega)]
  ·rw [if_neg D]
end
theorem oN {A:Option Addr} {B:Nat} {s:ByteArray} {w:World} (h:ae w B 1 A s.size (s.data.toList.flatMap bN)) (I:0<s.size) :
  ∃ b off,A=some ⟨b,off,none⟩∧b<B∧∀ j,j<s.size→w.cell? ⟨b,off+j,none⟩=some (.int .u8 (aa s j:Int)):=by obtain ⟨b,off,rfl,hb,J⟩:=h.el lz (by omega) (by simp) I;refine ⟨b,off,rfl,hb,fun j hj=>?_⟩;(have D:j<s.data.toList.length:=by simpa using hj);have:=J j D 0 _ rfl;rw [Nat.mul_one,Nat.add_zero,←re s j D] at this;exact this
def uJ (d:Nat × Nat) (w:World) (e:Ending) (w':World):Prop:=e=.returned (.tuple #[.int .i64 (d.2:Int),.int .i64 (dE d)])∧w=w'
theorem ri (A:Option Addr) (c:Nat) (s:ByteArray) (i:Nat) (w:World) (gr:s.size≤100000) (hi:i<s.size) (h:ae w w.heap.size 1 A s.size (s.data.toList.flatMap bN)) :
  Calls Tryz.prog 18 #[.slice A s.size c,.int .i64 i] w (uJ (Utf8.decode s i) w):=by
 obtain ⟨b,off,rfl,hb,y⟩:=oN h (by omega);have c0:=y i hi;have c1:=y (i+1);have c2:=y (i+2);have c3:=y (i+3);clear h y;have O:=eE s i;have N:=eE s (i+1);have M:=eE s (i+2);have K:=eE s (i+3);have HI:Hid (i<s.size):=hid hi;(have l1:((i:Int)+1).toNat=i+1:=by omega);(have l2:((i:Int)+2).toNat=i+2:=by omega);(have l3:((i:Int)+3).toNat=i+3:=by omega);by_cases I:aa s i<128
 ·rw [rf I];generalize hz:((aa s i:Nat):Int)=D at *;(have gi:0≤D:=by omega);(have gh:D<128:=by omega);have S:=hid (show dE (aa s i,1)=D by unfold dE;rw [if_neg (fun e=>by simp only [Prod.mk.injEq] at e;omega)];exact hz);clear hz c1 c2 c3 O N M K I l1 l2 l3;(go_enter Tryz.func18,Tryz.ntmps18;go_wp2_with fail);go_ret2;exact ⟨by rw [S.out];rfl,rfl⟩
 by_cases J:aa s i<194∨244<aa s i
 ·rw [rh (by omega) J];(have o:((aa s i:Nat):Int)<194∨244<((aa s i:Nat):Int):=by omega);(have gs:¬ ((aa s i:Nat):Int)<128:=by omega);(have gg:((aa s i:Nat):Int)<256:=by omega);(have ge:0≤((aa s i:Nat):Int):=by omega);generalize ((aa s i:Nat):Int)=D at *;clear c1 c2 c3 O N M K I J l1 l2 l3;rcases o with o | o
  ·(go_enter Tryz.func18,Tryz.ntmps18;go_wp2_with fail);go_ret2;exact ⟨rfl,rfl⟩
  ·(go_enter Tryz.func18,Tryz.ntmps18;go_wp2_with fail);go_ret2;exact ⟨rfl,rfl⟩
 (have gg:((aa s i:Nat):Int)<256:=by omega);(have ge:¬ ((aa s i:Nat):Int)<128:=by omega);(have gu:194≤((aa s i:Nat):Int):=by omega);(have gt:((aa s i:Nat):Int)≤244:=by omega);(have gp:0≤((aa s (i+1):Nat):Int):=by omega);(have gn:((aa s (i+1):Nat):Int)<256:=by omega);(have gm:0≤((aa s (i+2):Nat):Int):=by omega);(have gl:((aa s (i+2):Nat):Int)<256:=by omega);(have gk:0≤((aa s (i+3):Nat):Int):=by omega);(have gj:((aa s (i+3):Nat):Int)<256:=by omega);by_cases h3:aa s i≤223
 ·skip
  (have ga:((aa s i:Nat):Int)≤223:=by omega);(have z:194≤((aa s i:Nat):Int):=by omega);by_cases x:i+1<s.size
  ·replace c1:=c1 (by omega);clear c2 c3;by_cases u1:aa s (i+1)<128
   ·rw [eF (by omega) (by omega) (by omega)];(have k:((aa s (i+1):Nat):Int)<128:=by omega);generalize ((aa s i:Nat):Int)=D at *;generalize ((aa s (i+1):Nat):Int)=z1 at *;clear I J O N M K;(go_enter Tryz.func18,Tryz.ntmps18;go_wp2_with fail);refine wp_loop_rounds 4 ?_;(rw [rounds_succ];go_wp2_with fail);go_ret2;exact ⟨rfl,rfl⟩
   by_cases t1:191<aa s (i+1)
   ·rw [eF (by omega) (by omega) (by omega)];(have k:191<((aa s (i+1):Nat):Int):=by omega);generalize ((aa s i:Nat):Int)=D at *;generalize ((aa s (i+1):Nat):Int)=z1 at *;clear I J O N M K;(go_enter Tryz.func18,Tryz.ntmps18;go_wp2_with fail);refine wp_loop_rounds 4 ?_;(rw [rounds_succ];go_wp2_with fail);go_ret2;exact ⟨rfl,rfl⟩
   (have k:128≤((aa s (i+1):Nat):Int):=by omega);(have u:((aa s (i+1):Nat):Int)≤191:=by omega);obtain ⟨v,Q⟩:∃ v,v=(aa s i-192) * 64+(aa s (i+1)-128):=⟨_,rfl⟩
   have U:=hid (show (v:Int)=64 * (((aa s i:Nat):Int)-192)+((aa s (i+1):Nat):Int)-128 by omega);rw [t6 (by omega) (by omega) x (by omega) (by omega),←Q];have S:=hid (show dE (v,2)=(v:Int) by unfold dE;rw [if_neg (fun e=>by simp only [Prod.mk.injEq] at e;omega)]);clear Q;generalize ((aa s i:Nat):Int)=D at *;generalize ((aa s (i+1):Nat):Int)=z1 at *;clear I J O N M K;(go_enter Tryz.func18,Tryz.ntmps18;go_wp2_with fail);refine wp_loop_rounds 4 ?_;(rw [rounds_succ];go_wp2_with fail);(rw [rounds_succ];go_wp2_with fail);go_ret2;refine ⟨?_,rfl⟩;rw [S.out,U.out];rfl
  ·rw [eF (by omega) (by omega) (by omega)];clear c1 c2 c3;generalize ((aa s i:Nat):Int)=D at *;generalize ((aa s (i+1):Nat):Int)=z1 at *;clear I J O N M K;(go_enter Tryz.func18,Tryz.ntmps18;go_wp2_with fail);go_ret2;exact ⟨rfl,rfl⟩
 by_cases h4:aa s i≤239
 ·skip
  (have ga:((aa s i:Nat):Int)≤239:=by omega);(have z:224≤((aa s i:Nat):Int):=by omega);by_cases x:i+2<s.size
  ·replace c1:=c1 (by omega);replace c2:=c2 (by omega);clear c3;by_cases u1:aa s (i+1)<128
   ·rw [bI (by omega) (by omega) (by omega)];(have k:((aa s (i+1):Nat):Int)<128:=by omega);generalize ((aa s i:Nat):Int)=D at *;generalize ((aa s (i+1):Nat):Int)=z1 at *;generalize ((aa s (i+2):Nat):Int)=z2 at *;clear I J O N M K;(go_enter Tryz.func18,Tryz.ntmps18;go_wp2_with fail);refine wp_loop_rounds 4 ?_;(rw [rounds_succ];go_wp2_with fail);go_ret2;exact ⟨rfl,rfl⟩
   by_cases t1:191<aa s (i+1)
   ·rw [bI (by omega) (by omega) (by omega)];(have k:191<((aa s (i+1):Nat):Int):=by omega);generalize ((aa s i:Nat):Int)=D at *;generalize ((aa s (i+1):Nat):Int)=z1 at *;generalize ((aa s (i+2):Nat):Int)=z2 at *;clear I J O N M K;(go_enter Tryz.func18,Tryz.ntmps18;go_wp2_with fail);refine wp_loop_rounds 4 ?_;(rw [rounds_succ];go_wp2_with fail);go_ret2;exact ⟨rfl,rfl⟩
   (have k:128≤((aa s (i+1):Nat):Int):=by omega);(have u:((aa s (i+1):Nat):Int)≤191:=by omega);by_cases u2:aa s (i+2)<128
   ·rw [bI (by omega) (by omega) (by omega)];(have r:((aa s (i+2):Nat):Int)<128:=by omega);generalize ((aa s i:Nat):Int)=D at *;generalize ((aa s (i+1):Nat):Int)=z1 at *;generalize ((aa s (i+2):Nat):Int)=z2 at *;clear I J O N M K;(go_enter Tryz.func18,Tryz.ntmps18;go_wp2_with fail);refine wp_loop_rounds 4 ?_;(rw [rounds_succ];go_wp2_with fail);(rw [rounds_succ];go_wp2_with fail);go_ret2;exact ⟨rfl,rfl⟩
   by_cases t2:191<aa s (i+2)
   ·rw [bI (by omega) (by omega) (by omega)];(have r:191<((aa s (i+2):Nat):Int):=by omega);generalize ((aa s i:Nat):Int)=D at *;generalize ((aa s (i+1):Nat):Int)=z1 at *;generalize ((aa s (i+2):Nat):Int)=z2 at *;clear I J O N M K;(go_enter Tryz.func18,Tryz.ntmps18;go_wp2_with fail);refine wp_loop_rounds 4 ?_;(rw [rounds_succ];go_wp2_with fail);(rw [rounds_succ];go_wp2_with fail);go_ret2;exact ⟨rfl,rfl⟩
   (have r:128≤((aa s (i+2):Nat):Int):=by omega);(have gd:((aa s (i+2):Nat):Int)≤191:=by omega);obtain ⟨v,Q⟩:∃ v,v=(aa s i-224) * 4096+(aa s (i+1)-128) * 64+(aa s (i+2)-128):=⟨_,rfl⟩
   have U:=hid (show (v:Int)=64 * (64 * (((aa s i:Nat):Int)-224)+((aa s (i+1):Nat):Int)-128)+((aa s (i+2):Nat):Int)-128 by omega);rw [rg (by omega) (by omega) x (by omega) (by omega) (by omega) (by omega) v Q];have S:=hid (show dE (v,3)=(v:Int) by unfold dE;rw [if_neg (fun e=>by simp only [Prod.mk.injEq] at e;omega)]);by_cases g1:v<2048
   ·rw [if_neg (by omega)];(have q:64 * (64 * (((aa s i:Nat):Int)-224)+((aa s (i+1):Nat):Int)-128)+((aa s (i+2):Nat):Int)-128<2048:=by omega);clear Q g1 S U;generalize ((aa s i:Nat):Int)=D at *;generalize ((aa s (i+1):Nat):Int)=z1 at *;generalize ((aa s (i+2):Nat):Int)=z2 at *;clear I J O N M K;(go_enter Tryz.func18,Tryz.ntmps18;go_wp2_with fail);refine wp_loop_rounds 4 ?_;(rw [rounds_succ];go_wp2_with fail);(rw [rounds_succ];go_wp2_with fail);(rw [rounds_succ];go_wp2_with fail);go_ret2;exact ⟨rfl,rfl⟩
   (have q:¬ 64 * (64 * (((aa s i:Nat):Int)-224)+((aa s (i+1):Nat):Int)-128)+((aa s (i+2):Nat):Int)-128<2048:=by omega);by_cases g2:55296≤v∧v≤57343
   ·rw [if_neg (by omega)];(have j:55296≤64 * (64 * (((aa s i:Nat):Int)-224)+((aa s (i+1):Nat):Int)-128)+((aa s (i+2):Nat):Int)-128:=by omega);(have gb:64 * (64 * (((aa s i:Nat):Int)-224)+((aa s (i+1):Nat):Int)-128)+((aa s (i+2):Nat):Int)-128≤57343:=by omega);clear Q g1 g2 S U;generalize ((aa s i:Nat):Int)=D at *;generalize ((aa s (i+1):Nat):Int)=z1 at *;generalize ((aa s (i+2):Nat):Int)=z2 at *;clear I J O N M K;(go_enter Tryz.func18,Tryz.ntmps18;go_wp2_with fail);refine wp_loop_rounds 4 ?_;(rw [rounds_succ];go_wp2_with fail);(rw [rounds_succ];go_wp2_with fail);(rw [rounds_succ];go_wp2_with fail);go_ret2;exact ⟨rfl,rfl⟩
   rw [if_pos (by omega)];by_cases g3:v<55296
   ·(have j:¬ 55296≤64 * (64 * (((aa s i:Nat):Int)-224)+((aa s (i+1):Nat):Int)-128)+((aa s (i+2):Nat):Int)-128:=by omega);clear Q g1 g2 g3;generalize ((aa s i:Nat):Int)=D at *;generalize ((aa s (i+1):Nat):Int)=z1 at *;generalize ((aa s (i+2):Nat):Int)=z2 at *;clear I J O N M K;(go_enter Tryz.func18,Tryz.ntmps18;go_wp2_with fail);refine wp_loop_rounds 4 ?_;(rw [rounds_succ];go_wp2_with fail);(rw [rounds_succ];go_wp2_with fail);(rw [rounds_succ];go_wp2_with fail);go_ret2;refine ⟨?_,rfl⟩;rw [S.out,U.out];rfl
   ·(have j:¬ 64 * (64 * (((aa s i:Nat):Int)-224)+((aa s (i+1):Nat):Int)-128)+((aa s (i+2):Nat):Int)-128≤57343:=by omega);(have gb:55296≤64 * (64 * (((aa s i:Nat):Int)-224)+((aa s (i+1):Nat):Int)-128)+((aa s (i+2):Nat):Int)-128:=by omega);clear Q g1 g2 g3;generalize ((aa s i:Nat):Int)=D at *;generalize ((aa s (i+1):Nat):Int)=z1 at *;generalize ((aa s (i+2):Nat):Int)=z2 at *;clear I J O N M K;(go_enter Tryz.func18,Tryz.ntmps18;go_wp2_with fail);refine wp_loop_rounds 4 ?_;(rw [rounds_succ];go_wp2_with fail);(rw [rounds_succ];go_wp2_with fail);(rw [rounds_succ];go_wp2_with fail);go_ret2;refine ⟨?_,rfl⟩;rw [S.out,U.out];rfl
  ·rw [bI (by omega) (by omega) (by omega)];clear c1 c2 c3;generalize ((aa s i:Nat):Int)=D at *;generalize ((aa s (i+1):Nat):Int)=z1 at *;generalize ((aa s (i+2):Nat):Int)=z2 at *;clear I J O N M K;(go_enter Tryz.func18,Tryz.ntmps18;go_wp2_with fail);go_ret2;exact ⟨rfl,rfl⟩
 (have ga:((aa s i:Nat):Int)≤244:=by omega);(have z:240≤((aa s i:Nat):Int):=by omega);by_cases x:i+3<s.size
 ·replace c1:=c1 (by omega);replace c2:=c2 (by omega);replace c3:=c3 (by omega);by_cases u1:aa s (i+1)<128
  ·rw [bg (by omega) (by omega) (by omega)];(have k:((aa s (i+1):Nat):Int)<128:=by omega);generalize ((aa s i:Nat):Int)=D at *;generalize ((aa s (i+1):Nat):Int)=z1 at *;generalize ((aa s (i+2):Nat):Int)=z2 at *;generalize ((aa s (i+3):Nat):Int)=z3 at *;clear I J O N M K;(go_enter Tryz.func18,Tryz.ntmps18;go_wp2_with fail);refine wp_loop_rounds 4 ?_;(rw [rounds_succ];go_wp2_with fail);go_ret2;exact ⟨rfl,rfl⟩
  by_cases t1:191<aa s (i+1)
  ·rw [bg (by omega) (by omega) (by omega)];(have k:191<((aa s (i+1):Nat):Int):=by omega);generalize ((aa s i:Nat):Int)=D at *;generalize ((aa s (i+1):Nat):Int)=z1 at *;generalize ((aa s (i+2):Nat):Int)=z2 at *;generalize ((aa s (i+3):Nat):Int)=z3 at *;clear I J O N M K;(go_enter Tryz.func18,Tryz.ntmps18;go_wp2_with fail);refine wp_loop_rounds 4 ?_;(rw [rounds_succ];go_wp2_with fail);go_ret2;exact ⟨rfl,rfl⟩
  (have k:128≤((aa s (i+1):Nat):Int):=by omega);(have u:((aa s (i+1):Nat):Int)≤191:=by omega);by_cases u2:aa s (i+2)<128
  ·rw [bg (by omega) (by omega) (by omega)];(have r:((aa s (i+2):Nat):Int)<128:=by omega);generalize ((aa s i:Nat):Int)=D at *;generalize ((aa s (i+1):Nat):Int)=z1 at *;generalize ((aa s (i+2):Nat):Int)=z2 at *;generalize ((aa s (i+3):Nat):Int)=z3 at *;clear I J O N M K;(go_enter Tryz.func18,Tryz.ntmps18;go_wp2_with fail);refine wp_loop_rounds 4 ?_;(rw [rounds_succ];go_wp2_with fail);(rw [rounds_succ];go_wp2_with fail);go_ret2;exact ⟨rfl,rfl⟩
  by_cases t2:191<aa s (i+2)
  ·rw [bg (by omega) (by omega) (by omega)];(have r:191<((aa s (i+2):Nat):Int):=by omega);generalize ((aa s i:Nat):Int)=D at *;generalize ((aa s (i+1):Nat):Int)=z1 at *;generalize ((aa s (i+2):Nat):Int)=z2 at *;generalize ((aa s (i+3):Nat):Int)=z3 at *;clear I J O N M K;(go_enter Tryz.func18,Tryz.ntmps18;go_wp2_with fail);refine wp_loop_rounds 4 ?_;(rw [rounds_succ];go_wp2_with fail);(rw [rounds_succ];go_wp2_with fail);go_ret2;exact ⟨rfl,rfl⟩
  (have r:128≤((aa s (i+2):Nat):Int):=by omega);(have gd:((aa s (i+2):Nat):Int)≤191:=by omega);by_cases u3:aa s (i+3)<128
  ·rw [bg (by omega) (by omega) (by omega)];(have x3:((aa s (i+3):Nat):Int)<128:=by omega);generalize ((aa s i:Nat):Int)=D at *;generalize ((aa s (i+1):Nat):Int)=z1 at *;generalize ((aa s (i+2):Nat):Int)=z2 at *;generalize ((aa s (i+3):Nat):Int)=z3 at *;clear I J O N M K;(go_enter Tryz.func18,Tryz.ntmps18;go_wp2_with fail);refine wp_loop_rounds 4 ?_;(rw [rounds_succ];go_wp2_with fail);(rw [rounds_succ];go_wp2_with fail);(rw [rounds_succ];go_wp2_with fail);go_ret2;exact ⟨rfl,rfl⟩
  by_cases t3:191<aa s (i+3)
  ·rw [bg (by omega) (by omega) (by omega)];(have x3:191<((aa s (i+3):Nat):Int):=by omega);generalize ((aa s i:Nat):Int)=D at *;generalize ((aa s (i+1):Nat):Int)=z1 at *;generalize ((aa s (i+2):Nat):Int)=z2 at *;generalize ((aa s (i+3):Nat):Int)=z3 at *;clear I J O N M K;(go_enter Tryz.func18,Tryz.ntmps18;go_wp2_with fail);refine wp_loop_rounds 4 ?_;(rw [rounds_succ];go_wp2_with fail);(rw [rounds_succ];go_wp2_with fail);(rw [rounds_succ];go_wp2_with fail);go_ret2;exact ⟨rfl,rfl⟩
  (have x3:128≤((aa s (i+3):Nat):Int):=by omega);(have gq:((aa s (i+3):Nat):Int)≤191:=by omega);obtain ⟨v,Q⟩:∃ v,v=(aa s i-240) * 262144+(aa s (i+1)-128) * 4096+(aa s (i+2)-128) * 64+(aa s (i+3)-128):=⟨_,rfl⟩
  have U:=hid (show (v:Int)=64 * (64 * (64 * (((aa s i:Nat):Int)-240)+((aa s (i+1):Nat):Int)-128)+((aa s (i+2):Nat):Int)-128)+((aa s (i+3):Nat):Int)-128 by omega);rw [sX (by omega) (by omega) x (by omega) (by omega) (by omega) (by omega) (by omega) (by omega) v Q];have S:=hid (show dE (v,4)=(v:Int) by unfold dE;rw [if_neg (fun e=>by simp only [Prod.mk.injEq] at e;omega)]);by_cases g1:v<65536
  ·rw [if_neg (by omega)];(have q:64 * (64 * (64 * (((aa s i:Nat):Int)-240)+((aa s (i+1):Nat):Int)-128)+((aa s (i+2):Nat):Int)-128)+((aa s (i+3):Nat):Int)-128<65536:=by omega);clear Q g1 S U;generalize ((aa s i:Nat):Int)=D at *;generalize ((aa s (i+1):Nat):Int)=z1 at *;generalize ((aa s (i+2):Nat):Int)=z2 at *;generalize ((aa s (i+3):Nat):Int)=z3 at *;clear I J O N M K;(go_enter Tryz.func18,Tryz.ntmps18;go_wp2_with fail);refine wp_loop_rounds 4 ?_;(rw [rounds_succ];go_wp2_with fail);(rw [rounds_succ];go_wp2_with fail);(rw [rounds_succ];go_wp2_with fail);(rw [rounds_succ];go_wp2_with fail);go_ret2;exact ⟨rfl,rfl⟩
  (have q:¬ 64 * (64 * (64 * (((aa s i:Nat):Int)-240)+((aa s (i+1):Nat):Int)-128)+((aa s (i+2):Nat):Int)-128)+((aa s (i+3):Nat):Int)-128<65536:=by omega);by_cases g2:v≤1114111
  ·rw [if_pos (by omega)];(have j:¬ 1114111<64 * (64 * (64 * (((aa s i:Nat):Int)-240)+((aa s (i+1):Nat):Int)-128)+((aa s (i+2):Nat):Int)-128)+((aa s (i+3):Nat):Int)-128:=by omega);(have gb:57343<64 * (64 * (64 * (((aa s i:Nat):Int)-240)+((aa s (i+1):Nat):Int)-128)+((aa s (i+2):Nat):Int)-128)+((aa s (i+3):Nat):Int)-128:=by omega);clear Q g1 g2;generalize ((aa s i:Nat):Int)=D at *;generalize ((aa s (i+1):Nat):Int)=z1 at *;generalize ((aa s (i+2):Nat):Int)=z2 at *;generalize ((aa s (i+3):Nat):Int)=z3 at *;clear I J O N M K;(go_enter Tryz.func18,Tryz.ntmps18;go_wp2_with fail);refine wp_loop_rounds 4 ?_;(rw [rounds_succ];go_wp2_with fail);(rw [rounds_succ];go_wp2_with fail);(rw [rounds_succ];go_wp2_with fail);(rw [rounds_succ];go_wp2_with fail);go_ret2;refine ⟨?_,rfl⟩;rw [S.out,U.out];rfl
  ·rw [if_neg (by omega)];(have j:1114111<64 * (64 * (64 * (((aa s i:Nat):Int)-240)+((aa s (i+1):Nat):Int)-128)+((aa s (i+2):Nat):Int)-128)+((aa s (i+3):Nat):Int)-128:=by omega);clear Q g1 g2 S U;generalize ((aa s i:Nat):Int)=D at *;generalize ((aa s (i+1):Nat):Int)=z1 at *;generalize ((aa s (i+2):Nat):Int)=z2 at *;generalize ((aa s (i+3):Nat):Int)=z3 at *;clear I J O N M K;(go_enter Tryz.func18,Tryz.ntmps18;go_wp2_with fail);refine wp_loop_rounds 4 ?_;(rw [rounds_succ];go_wp2_with fail);(rw [rounds_succ];go_wp2_with fail);(rw [rounds_succ];go_wp2_with fail);(rw [rounds_succ];go_wp2_with fail);go_ret2;exact ⟨rfl,rfl⟩
 ·rw [bg (by omega) (by omega) (by omega)];clear c1 c2 c3;generalize ((aa s i:Nat):Int)=D at *;generalize ((aa s (i+1):Nat):Int)=z1 at *;generalize ((aa s (i+2):Nat):Int)=z2 at *;generalize ((aa s (i+3):Nat):Int)=z3 at *;clear I J O N M K;(go_enter Tryz.func18,Tryz.ntmps18;go_wp2_with fail);go_ret2;exact ⟨rfl,rfl⟩
theorem rj (d:Nat × Nat):dE d=10↔d.1=10:=by
 unfold dE;split
 ·rename_i h;rw [h];simp
 ·omega
theorem rk (A:Option Addr) (cp:Nat) (s:ByteArray) (n:Int) (w:World) (U:s.size≤100000) (h:ae w w.heap.size 1 A s.size (s.data.toList.flatMap bN)) :
  Calls Tryz.prog 13 #[.slice A s.size cp,.int .i64 n] w fun e w'=>e=.returned (.tuple #[.int .i64 (bR s n).1,.int .i64 (bR s n).2])∧w=w':=by
 have x:=hid h;clear h;by_cases u:n<0
 ·rw [ek (.inl u)];(go_enter Tryz.func13,Tryz.ntmps13);(go_wp2_with fail);go_ret2;exact ⟨rfl,rfl⟩
 by_cases r:(s.size:Int)<n
 ·rw [ek (.inr r)];(go_enter Tryz.func13,Tryz.ntmps13);(go_wp2_with fail);go_ret2;exact ⟨rfl,rfl⟩
 rw [fF (by omega)];obtain ⟨m,rfl⟩:∃ m:Nat,n=m:=⟨n.toNat,by omega⟩;(have hm:m≤s.size:=by omega);rw [Int.toNat_natCast];generalize hP:ax s m s.size 0 (1,1)=P;have y:=hid hP;clear hP;(go_enter Tryz.func13,Tryz.ntmps13);(go_wp2_with fail);go_loopw [6,7,8] (fun q s7 s8 wr=>∃ (i:Nat) (l c:Int),i≤s.size∧q=.int .i64 l∧s7=.int .i64 c∧s8=.int .i64 i∧wr=w∧ax s m (s.size-i) i (l,c)=P∧1≤l∧l≤i+1∧1≤c∧c≤i+1) (fun _ _ s8 _=>s.size-(RowKit.intOf s8).toNat)
 case atStart=>exact ⟨0,1,1,Nat.zero_le _,rfl,rfl,rfl,rfl,y.out,by omega,by omega,by omega,by omega⟩
 case round=>
  obtain ⟨i,l,c,hi,rfl,rfl,rfl,rfl,k,l1,l2,c1,c2⟩:=hrel;have N:=hid k;clear k;by_cases j:i<m
  ·(have K:i<s.size:=by omega);have J:=fE s m i (l,c) j K;have hd:=eH s i K;have o:=hid (ri A cp s i wr U K x.out);have D:=rj (Utf8.decode s i);generalize hdd:Utf8.decode s i=d at J hd o D;have S:=hid hdd;clear hdd;have Q:=hid J;clear J;(go_wp2_with fail);refine o.out.mono ?_;rintro e w' ⟨rfl,rfl⟩;by_cases O:dE d=10
   ·have I:=hid (Q.out.symm.trans N.out);have M:=hid (show io s i (l,c)=(l+1,1) by unfold io;rw [S.out,if_pos (D.1 O)]);rw [M.out] at I;rw [O];clear D O;(go_wp2_with fail);go_roundw
    case rel=>exact ⟨i+d.2,l+1,1,hd.2,by go_num,rfl,by go_num,trivial,I.out,by omega,by omega,by omega,by omega⟩
    case measure=>simp [RowKit.intOf];omega
   ·have I:=hid (Q.out.symm.trans N.out);have M:=hid (show io s i (l,c)=(l,c+1) by unfold io;rw [S.out,if_neg (fun h=>O (D.2 h))]);rw [M.out] at I;generalize dE d=v at D O ⊢;clear D;(go_wp2_with fail);go_roundw
    case rel=>exact ⟨i+d.2,l,c+1,hd.2,rfl,by go_num,by go_num,trivial,I.out,by omega,by omega,by omega,by omega⟩
    case measure=>simp [RowKit.intOf];omega
  ·have z:=hid (dK s m (s.size-i) i (l,c) (.inl (by omega)));(go_wp2_with fail);go_ret2;refine ⟨?_,rfl⟩;rw [←N.out,z.out];rfl
end
end Go.Proofs.YtmmjgmcfdnkomaaGreatDoor
