/-
  The statement ReadPlacesCardSaid: whatever the bytes, ReadPlaces returns true and leaves them as they were.
  Its conditions: the two listed tables read as the program's text lays them (the card ties them). By an AI agent.
-/
import Derived.Test.YtiebcdeafofgdaaGreatDoorJ28
import Derived.Test.YtiebcdeafofgdaaGreatDoorJ49
set_option maxRecDepth 100000
set_option maxHeartbeats 8000000
namespace Go.Proofs.YtiebcdeafofgdaaGreatDoor.lawPlaces
section
open Go.ChangeShapes Go.WideShapes Go.ChangeAt Go.RowKit
open Go.ChangeMaps (open_string)
theorem contract (H:Type) (enc:TypeId × Value→H) (W:World) (base:Nat) (args:Array Value) (ds gs:List (DataW H)) (before:List MemPlace)
  (D:∀ (j:Nat) t v,Tryz.f5.params[j]? = some t→args[j]? = some v→Value.okWide Tryz.prog W .any base t v)
  (hW:DataW.Whole enc Tryz.prog Tryz.f5.params.toList Rows.readPlacesSpec.vars false W args.toList ds gs before) (N:laidMetH Tryz.prog Rows.readPlacesRow.laid W) (I:W.ShapedOpen Tryz.prog) :
  Calls Tryz.prog 5 args W fun e W'=>∃ v,e=.returned v∧Rows.readPlacesSpec.post enc Tryz.prog Tryz.f5 false true false false W args v W':=by have hL:laidMet Tryz.prog wP W:=N;have M:=hW;obtain ⟨p,q,O,hV,rfl,gb,ga⟩:=hW;have U:DataW.TrodAll enc Tryz.prog W 0 (fun _=>true) true Tryz.f5.params.toList args.toList ds p:=O;rw [Tryz.params5] at U D;obtain ⟨v0,h,d0,gd,p0,q0,J,rfl,rfl,h0,y⟩:=trodAll_cons U;obtain ⟨rfl,rfl,rfl⟩:=trodAll_nil y;(obtain rfl:args = #[v0]:=by cases args;simp_all);obtain ⟨A,c,s,rfl,z⟩:=rS (D 0 27 v0 rfl rfl) h0;refine (Ct A c s W z (wQ I hL)).mono fun e W' ⟨he,hb⟩=>?_;subst he;exact ⟨_,rfl,sI M rfl rfl rfl rfl rfl (by rw [Tryz.params5];intro t ht;obtain rfl:t=27:=(by simpa using ht);exact ⟨by kernel_rfl,of_decide_eq_true (by kernel_rfl)⟩) hb⟩
theorem laid_met (os:Os):laidMet Tryz.prog Rows.readPlacesRow.laid ((eR os).forCall (fun _ _=>0) ⟨#[],#[.slice none 0 0],[]⟩).memory:=
 laidMet_of_run' 8 (by kernel_rfl) (by kernel_rfl)
theorem reads (os:Os) {H:Type} (enc:TypeId × Value→H):∃ places,DataW.whole enc Tryz.prog ((eR os).forCall (fun _ _=>0) ⟨#[],#[.slice none 0 0],[]⟩).memory Tryz.f5.params.toList Rows.readPlacesSpec.vars false (#[.slice none 0 0]:Array Value).toList 8=some ([.nil],[],places):=
 ⟨[],by kernel_rfl⟩
theorem lifted (os:Os) (started:os.Started) (H:Type) (enc:TypeId × Value→H) (F:Stop.Interp) :
  ReturnsInHanded {} Tryz.checked os 5 .any ((OpenSpec.ofChange Rows.readPlacesSpec).preRow enc Tryz.prog Tryz.f5 Rows.readPlacesRow.domain false Rows.readPlacesRow.laid) (((OpenSpec.ofChange Rows.readPlacesSpec).at F).post enc Tryz.prog Tryz.f5 false true false false):=by
 obtain ⟨places,D⟩:=reads os enc;refine returnsInHanded_of_row (C:=Tryz.checked) (s:=OpenSpec.ofChange Rows.readPlacesSpec) own started (by kernel_rfl) Tryz.func5
  (witness_row_at (enc:=enc) (C:=Tryz.checked) false (eR os) #[.slice none 0 0] rfl (by kernel_rfl) (by kernel_rfl) (by kernel_rfl)
   (OpenSpec.preRow_of_cond 8 D (by kernel_rfl) (fun k I=>by cases I) (by kernel_rfl) (laid_met os))) ?_
 intro W base args ds gs before hval hW _ _ _ hL hsh _;exact contract H enc W base args ds gs before hval hW hL hsh
theorem said:Rows.ReadPlacesSaid:=
 OpenClaim.holds_of_cond 5 Tryz.f5 rfl rfl rfl rfl rfl rfl rfl ⟨rfl,rfl,rfl,rfl,rfl⟩ rfl rfl rfl rfl rfl (by kernel_rfl) Tryz.func5 (by kernel_rfl)
  (of_decide_eq_true (by kernel_rfl)) (by unfold Func.isWrapper;first | (rw [if_pos (by decide +kernel)];kernel_rfl) | (rw [if_neg (by decide +kernel)];exact ⟨rfl,rfl⟩))
  (fun os started H enc _ F=>by rw [OpenClaim.pre_eq_preRow];exact lifted os started H enc F)
theorem plain (f:FuncId) (fn:Func) (I:Tryz.pinned.checked.prog.funcNamed "demotic/demoticlaw08.ReadPlaces" = some f) (D:Tryz.pinned.checked.prog.funcs[f]? = some fn) :
  true=Tryz.pinned.checked.prog.looks []∧∀ (j:Nat) t,fn.params[j]? = some t→Tryz.pinned.checked.prog.wantsStandIn t=false:=by obtain rfl:f=5:=Option.some.inj ((show Tryz.prog.funcNamed "demotic/demoticlaw08.ReadPlaces" = some 5 by kernel_rfl).symm.trans I) |>.symm;obtain rfl:fn=Tryz.f5:=(Option.some.inj (Tryz.func5.symm.trans D)).symm;refine ⟨by kernel_rfl,fun j t ht=>?_⟩;rw [Tryz.params5] at ht;(obtain rfl:t=27:=by simpa using Array.mem_of_getElem? ht);exact (show Tryz.prog.wantsStandIn 27=false by kernel_rfl)
theorem card:Rows.ReadPlacesCardSaid:=
 Claim7.holds_tied_plain_at .later [] _ _ _ _ said (fun _ h=>by cases h) (by kernel_rfl) (fun _ h=>by cases h) readPlaces_row_tie rfl ⟨rfl,rfl⟩ (by kernel_rfl) rfl plain (by kernel_rfl)
end
end Go.Proofs.YtiebcdeafofgdaaGreatDoor.lawPlaces
