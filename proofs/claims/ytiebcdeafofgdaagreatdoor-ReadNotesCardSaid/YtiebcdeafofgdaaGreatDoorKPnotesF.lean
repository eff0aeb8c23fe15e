/-
  The statement ReadNotesCardSaid: whatever the bytes and the small number, ReadNotes returns true and leaves them as they were.
  Its conditions: the two listed tables read as the program's text lays them (the card ties them). By an AI agent.
-/
import Derived.Test.YtiebcdeafofgdaaGreatDoorJ28
import Derived.Test.YtiebcdeafofgdaaGreatDoorJ48
set_option maxRecDepth 100000
set_option maxHeartbeats 8000000
namespace Go.Proofs.YtiebcdeafofgdaaGreatDoor.lawNotes
section
open Go.ChangeShapes Go.WideShapes Go.ChangeAt Go.RowKit
open Go.ChangeMaps (open_string)
theorem u8_of {a:Int} (h:(Lit.int .u8 a).wf=true):0≤a∧a<256:=by rw [show (Lit.int .u8 a).wf=(decide (0≤a)&&decide (a≤255)) from rfl,Bool.and_eq_true,decide_eq_true_iff,decide_eq_true_iff] at h;exact ⟨h.1,by omega⟩
theorem contract (H:Type) (enc:TypeId × Value→H) (W:World) (base:Nat) (args:Array Value) (ds gs:List (DataW H)) (before:List MemPlace)
  (D:∀ (j:Nat) t v,Tryz.f9.params[j]? = some t→args[j]? = some v→Value.okWide Tryz.prog W .any base t v)
  (hW:DataW.Whole enc Tryz.prog Tryz.f9.params.toList Rows.readNotesSpec.vars false W args.toList ds gs before) (O:laidMetH Tryz.prog Rows.readNotesRow.laid W) (J:W.ShapedOpen Tryz.prog) :
  Calls Tryz.prog 9 args W fun e W'=>∃ v,e=.returned v∧Rows.readNotesSpec.post enc Tryz.prog Tryz.f9 false true false false W args v W':=by
 have hL:laidMet Tryz.prog wP W:=O;have N:=hW;obtain ⟨p,q,U,hV,rfl,gb,ga⟩:=hW;have h:DataW.TrodAll enc Tryz.prog W 0 (fun _=>true) true Tryz.f9.params.toList args.toList ds p:=U;rw [Tryz.params9] at h D;obtain ⟨v0,z,d0,ge,p0,q0,M,rfl,rfl,h0,r0⟩:=trodAll_cons h;obtain ⟨v1,y,d1,gd,p1,q1,rfl,rfl,rfl,h1,r1⟩:=trodAll_cons r0;obtain ⟨rfl,rfl,rfl⟩:=trodAll_nil r1;(obtain rfl:args = #[v0,v1]:=by cases args;simp_all);obtain ⟨A,c,s,rfl,hv⟩:=rS (D 0 27 v0 rfl rfl) h0;obtain ⟨m,rfl,rfl,rfl,w1⟩:=open_int Tryz.underlying5 (D 1 5 v1 rfl rfl) h1;have hm:=u8_of w1;obtain ⟨k,rfl⟩:∃ k:Nat,m=(k:Int):=⟨m.toNat,by omega⟩
 refine (Eu A c s k (by omega) W hv (wQ J hL)).mono fun e W' ⟨he,hb⟩=>?_;subst he;exact ⟨_,rfl,sI N rfl rfl rfl rfl rfl (by rw [Tryz.params9];intro t I;have I:t=27∨t=5:=(by simpa using I);rcases I with rfl | rfl <;> exact ⟨by kernel_rfl,of_decide_eq_true (by kernel_rfl)⟩) hb⟩
theorem laid_met (os:Os):laidMet Tryz.prog Rows.readNotesRow.laid ((eR os).forCall (fun _ _=>0) ⟨#[],#[.slice none 0 0,.int .u8 0],[]⟩).memory:=
 laidMet_of_run' 8 (by kernel_rfl) (by kernel_rfl)
theorem reads (os:Os) {H:Type} (enc:TypeId × Value→H):∃ places,DataW.whole enc Tryz.prog ((eR os).forCall (fun _ _=>0) ⟨#[],#[.slice none 0 0,.int .u8 0],[]⟩).memory Tryz.f9.params.toList Rows.readNotesSpec.vars false (#[.slice none 0 0,.int .u8 0]:Array Value).toList 8=some ([.nil,.lit (.int .u8 0)],[],places):=
 ⟨[],by kernel_rfl⟩
theorem lifted (os:Os) (started:os.Started) (H:Type) (enc:TypeId × Value→H) (F:Stop.Interp) :
  ReturnsInHanded {} Tryz.checked os 9 .any ((OpenSpec.ofChange Rows.readNotesSpec).preRow enc Tryz.prog Tryz.f9 Rows.readNotesRow.domain false Rows.readNotesRow.laid) (((OpenSpec.ofChange Rows.readNotesSpec).at F).post enc Tryz.prog Tryz.f9 false true false false):=by
 obtain ⟨places,D⟩:=reads os enc;refine returnsInHanded_of_row (C:=Tryz.checked) (s:=OpenSpec.ofChange Rows.readNotesSpec) own started (by kernel_rfl) Tryz.func9
  (witness_row_at (enc:=enc) (C:=Tryz.checked) false (eR os) #[.slice none 0 0,.int .u8 0] rfl (by kernel_rfl) (by kernel_rfl) (by kernel_rfl)
   (OpenSpec.preRow_of_cond 8 D (by kernel_rfl) (fun k I=>by cases I) (by kernel_rfl) (laid_met os))) ?_
 intro W base args ds gs before hval hW _ _ _ hL hsh _;exact contract H enc W base args ds gs before hval hW hL hsh
theorem said:Rows.ReadNotesSaid:=
 OpenClaim.holds_of_cond 9 Tryz.f9 rfl rfl rfl rfl rfl rfl rfl ⟨rfl,rfl,rfl,rfl,rfl⟩ rfl rfl rfl rfl rfl (by kernel_rfl) Tryz.func9 (by kernel_rfl)
  (of_decide_eq_true (by kernel_rfl)) (by unfold Func.isWrapper;first | (rw [if_pos (by decide +kernel)];kernel_rfl) | (rw [if_neg (by decide +kernel)];exact ⟨rfl,rfl⟩))
  (fun os started H enc _ F=>by rw [OpenClaim.pre_eq_preRow];exact lifted os started H enc F)
theorem plain (f:FuncId) (fn:Func) (J:Tryz.pinned.checked.prog.funcNamed "demotic/demoticlaw08.ReadNotes" = some f) (I:Tryz.pinned.checked.prog.funcs[f]? = some fn) :
  true=Tryz.pinned.checked.prog.looks []∧∀ (j:Nat) t,fn.params[j]? = some t→Tryz.pinned.checked.prog.wantsStandIn t=false:=by
 obtain rfl:f=9:=Option.some.inj ((show Tryz.prog.funcNamed "demotic/demoticlaw08.ReadNotes" = some 9 by kernel_rfl).symm.trans J) |>.symm;obtain rfl:fn=Tryz.f9:=(Option.some.inj (Tryz.func9.symm.trans I)).symm;refine ⟨by kernel_rfl,fun j t D=>?_⟩;rw [Tryz.params9] at D;(have D:t=27∨t=5:=by simpa using Array.mem_of_getElem? D);rcases D with rfl | rfl
 ·exact (show Tryz.prog.wantsStandIn 27=false by kernel_rfl)
 ·exact (show Tryz.prog.wantsStandIn 5=false by kernel_rfl)
theorem card:Rows.ReadNotesCardSaid:=
 Claim7.holds_tied_plain_at .later [] _ _ _ _ said (fun _ h=>by cases h) (by kernel_rfl) (fun _ h=>by cases h) readNotes_row_tie rfl ⟨rfl,rfl⟩ (by kernel_rfl) rfl plain (by kernel_rfl)
end
end Go.Proofs.YtiebcdeafofgdaaGreatDoor.lawNotes
