/-
  Parts of the proof: Pframe. By an AI agent.
-/
import Derived.Test.YtiebcdeafofgdaaGreatDoorCards
import Derived.Test.YtiebcdeafofgdaaGreatDoorTie
import Derived.Test.YtiebcdeafofgdaaGreatDoorJ00
import Derived.Test.YtiebcdeafofgdaaGreatDoorJ22
import Derived.Test.YtiebcdeafofgdaaGreatDoorJ23
import Derived.ChangeSlices
import Derived.Lib.LaidU8T
set_option maxRecDepth 100000
set_option maxHeartbeats 8000000
namespace Go.Proofs.YtiebcdeafofgdaaGreatDoor
section
open Go.ChangeShapes Go.WideShapes Go.ChangeAt Go.RowKit Go.Shelf Go.Lib
theorem wO {W:World} (h:W.ShapedOpen Tryz.prog):cD W:=by obtain ⟨cs,y,hs,q⟩:=h.1 2 #[.int .i64 0] 3 (of_decide_eq_true (by kernel_rfl)) (by kernel_rfl);obtain ⟨ts,J,_,M⟩:=q (by kernel_rfl);rw [show Tryz.prog.cellTypes Tryz.prog.depth 3=some [3] by kernel_rfl] at J;cases J;(have O:0<cs.size:=by rw [hs];decide);obtain ⟨u,N,D⟩:=M 0 cs[0] (by simp [O]);(have:u=3:=by simpa using N.symm);subst this;(have I:W.cell? ⟨2,0,none⟩=some cs[0]:=by simp [World.cell?,y,O]);unfold cD;rw [I];unfold Cell.ok at D;rw [Tryz.underlying3] at D;cases U:cs[0] <;> rw [U] at D <;> simp at D;obtain ⟨rfl,-⟩:=D;exact ⟨_,rfl⟩
def I1:Ren:=⟨fun n=>n,fun | 5=>5 | 119=>149 | 138=>152 | 139=>153 | n=>n,fun | 3=>0 | 4=>1 | n=>n⟩
theorem G3:U8Types Tryz.prog I1:=⟨Tryz.underlying5,Tryz.underlying149,Tryz.underlying152,Tryz.underlying153⟩
theorem G4:U8Extra Tryz.prog I1:=⟨by kernel_rfl,by kernel_rfl,by kernel_rfl,by kernel_rfl,by kernel_rfl,by kernel_rfl,by kernel_rfl⟩
def wP:List (String × DataW Unit):=[("unicode/utf8.acceptRanges",Rows.laid_unicode_utf8_acceptRanges),("unicode/utf8.first",Rows.laid_unicode_utf8_first)]
theorem BQ:Rows.laid_unicode_utf8_first=firstData:=by kernel_rfl
theorem y7:(Rows.laid_unicode_utf8_acceptRanges:DataW Unit)=acceptData:=by kernel_rfl
theorem wQ {W:World} (h:W.ShapedOpen Tryz.prog) (D:laidMet Tryz.prog wP W):iq W:=
 ⟨wO h,utf8Tabs_of_readsT G3 G4 (by rw [←BQ];exact laidMet.reads D (.tail _ (.head _))) (by rw [←y7];exact laidMet.reads D (.head _))⟩
def EU:DataW Unit→List Value
 | .lit (.int k n)=>[.int k n]
 | .agg l=>l.map fun | .lit (.int k n)=>Value.int k n | _=>Value.bool false
 | _=>[]
def rR:DataW Unit→Array Value
 | .agg l=>(l.flatMap EU).toArray
 | _ => #[]
def EV (c:Array Value):Obj→Obj
 | .cells _ t frozen=>.cells c t frozen
 | o=>o
noncomputable def eR (os:Os):World:=
 { World.holding Tryz.prog os ⟨#[],#[],[]⟩ with heap:=((World.holding Tryz.prog os ⟨#[],#[],[]⟩).heap.modify 1 (EV (rR Rows.laid_unicode_utf8_acceptRanges))).modify 0 (EV (rR Rows.laid_unicode_utf8_first)) }
section
variable {H:Type} {enc:TypeId × Value→H}
theorem G5:Tryz.prog.cellsOf 5=1:=by kernel_rfl
theorem rS {W:World} {base:Nat} {v1:Value} {d1:DataW H} {p1:List MemPlace} (J:Value.okWide Tryz.prog W .any base 27 v1) (h1:DataW.Trod enc Tryz.prog W 0 (fun _=>true) true 27 v1 d1 p1) :
  ∃ (A:Option Addr) (c:Nat) (s:ByteArray),v1=.slice A s.size c∧dr W A c s:=by
 obtain ⟨a1,len,cap,rfl⟩:=okWide_slice Tryz.underlying27 J;obtain ⟨fuel,hf⟩:=h1;rcases open_ints Tryz.underlying27 Tryz.underlying5 G5 hf with ⟨D,y⟩ | ⟨a,len',cap',zs,D,_,hl,hm,hz,y,N,z⟩
 ·simp [Value.cells] at D;obtain ⟨rfl,rfl,rfl⟩:=D;exact ⟨none,0,⟨#[]⟩,rfl,.inl ⟨rfl,rfl,rfl⟩⟩
 ·simp [Value.cells] at D;obtain ⟨rfl,rfl,rfl⟩:=D;simp only [if_true] at hz;(have I:(⟨((zs.take len).map fun n=>UInt8.ofNat n.toNat).toArray⟩:ByteArray).size=len:=by show ((zs.take len).map fun n=>UInt8.ofNat n.toNat).toArray.size=len;simp;omega);(obtain ⟨-,-,-,M,row,cells,O,-⟩:_∧_∧_∧a.spot=none∧∃ row cells,W.shape? a.block=some (row,cells)∧_:=by have h:=J;simp only [Value.okWide,Tryz.underlying27,Cell.okWide,Cell.ok] at h;obtain ⟨e1,e2,e3,e4,e5⟩:=h;exact ⟨e1,e2,e3,e4,e5⟩);obtain ⟨ab,ao,spot⟩:=a;have M:spot=none:=M;subst M;have gb:ab<W.heap.size:=by
   rcases Nat.lt_or_ge ab W.heap.size with h | h
   ·exact h
   ·exfalso;unfold World.shape? at O;simp [Array.getElem?_eq_none h] at O
  refine ⟨some ⟨ab,ao,none⟩,cap,⟨((zs.take len).map fun n=>UInt8.ofNat n.toNat).toArray⟩,by rw [I],.inr ⟨ab,ao,rfl,by rw [I];exact hl,gb,fun j q=>?_⟩⟩;(have q:j<len:=by rw [I] at q;exact q);have U:=N j (by omega);rw [Addr.add_lit] at U;rw [U];have hb:=range_u8 z j;(have e:zs.getD j 0=zs[j]'(by omega):=by simp [List.getD,List.getElem?_eq_getElem (show j<zs.length by omega)]);rw [List.getD_eq_getElem?_getD] at e;rw [e] at hb;rw [List.getD_eq_getElem?_getD,e];(have ga:j<zs.length:=by omega);(have y:(⟨((zs.take len).map fun n=>UInt8.ofNat n.toNat).toArray⟩:ByteArray)[j]'(by rw [I];exact q)=UInt8.ofNat (zs[j]'ga).toNat:=by show (((zs.take len).map fun n=>UInt8.ofNat n.toNat).toArray)[j]'(by simp;omega)=_;simp);rw [y,UInt8.toNat_ofNat'];congr 2;omega
end
end
end Go.Proofs.YtiebcdeafofgdaaGreatDoor
