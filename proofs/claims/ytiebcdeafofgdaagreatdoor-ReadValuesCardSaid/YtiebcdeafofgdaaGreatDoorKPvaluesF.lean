/-
  The statement ReadValuesCardSaid: whatever the text, ReadValues returns true and leaves it as it was.
  Its conditions: the two listed tables read as the program's text lays them (the card ties them). By an AI agent.
-/
import Derived.Test.YtiebcdeafofgdaaGreatDoorJ28
import Derived.Test.YtiebcdeafofgdaaGreatDoorJ51
set_option maxRecDepth 100000
set_option maxHeartbeats 8000000
namespace Go.Proofs.YtiebcdeafofgdaaGreatDoor.lawValues
section
open Go.ChangeShapes Go.WideShapes Go.ChangeAt Go.RowKit
open Go.ChangeMaps (open_string)
theorem contract (H:Type) (enc:TypeId × Value→H) (W:World) (base:Nat) (args:Array Value) (ds gs:List (DataW H)) (before:List MemPlace)
  (D:∀ (j:Nat) t v,Tryz.f8.params[j]? = some t→args[j]? = some v→Value.okWide Tryz.prog W .any base t v)
  (hW:DataW.Whole enc Tryz.prog Tryz.f8.params.toList Rows.readValuesSpec.vars false W args.toList ds gs before) (N:laidMetH Tryz.prog Rows.readValuesRow.laid W) (I:W.ShapedOpen Tryz.prog) :
  Calls Tryz.prog 8 args W fun e W'=>∃ v,e=.returned v∧Rows.readValuesSpec.post enc Tryz.prog Tryz.f8 false true false false W args v W':=by have hL:laidMet Tryz.prog wP W:=N;have M:=hW;obtain ⟨p,q,O,hV,rfl,ga,z⟩:=hW;have U:DataW.TrodAll enc Tryz.prog W 0 (fun _=>true) true Tryz.f8.params.toList args.toList ds p:=O;rw [Tryz.params8] at U D;obtain ⟨v0,h,d0,gb,p0,q0,J,rfl,rfl,h0,y⟩:=trodAll_cons U;obtain ⟨rfl,rfl,rfl⟩:=trodAll_nil y;(obtain rfl:args = #[v0]:=by cases args;simp_all);obtain ⟨s,rfl,rfl,rfl,ws⟩:=open_string Tryz.underlying9 (D 0 9 v0 rfl rfl) h0;refine (CR s W (wQ I hL)).mono fun e W' ⟨he,hb⟩=>?_;subst he;exact ⟨_,rfl,sI M rfl rfl rfl rfl rfl (by rw [Tryz.params8];intro t ht;obtain rfl:t=9:=(by simpa using ht);exact ⟨by kernel_rfl,of_decide_eq_true (by kernel_rfl)⟩) hb⟩
theorem laid_met (os:Os):laidMet Tryz.prog Rows.readValuesRow.laid ((eR os).forCall (fun _ _=>0) ⟨#[],#[.string ⟨#[]⟩],[]⟩).memory:=
 laidMet_of_run' 8 (by kernel_rfl) (by kernel_rfl)
theorem reads (os:Os) {H:Type} (enc:TypeId × Value→H):∃ places,DataW.whole enc Tryz.prog ((eR os).forCall (fun _ _=>0) ⟨#[],#[.string ⟨#[]⟩],[]⟩).memory Tryz.f8.params.toList Rows.readValuesSpec.vars false (#[.string ⟨#[]⟩]:Array Value).toList 8=some ([.lit (.string [])],[],places):=
 ⟨[],by kernel_rfl⟩
theorem lifted (os:Os) (started:os.Started) (H:Type) (enc:TypeId × Value→H) (F:Stop.Interp) :
  ReturnsInHanded {} Tryz.checked os 8 .any ((OpenSpec.ofChange Rows.readValuesSpec).preRow enc Tryz.prog Tryz.f8 Rows.readValuesRow.domain false Rows.readValuesRow.laid) (((OpenSpec.ofChange Rows.readValuesSpec).at F).post enc Tryz.prog Tryz.f8 false true false false):=by
 obtain ⟨places,D⟩:=reads os enc;refine returnsInHanded_of_row (C:=Tryz.checked) (s:=OpenSpec.ofChange Rows.readValuesSpec) own started (by kernel_rfl) Tryz.func8
  (witness_row_at (enc:=enc) (C:=Tryz.checked) false (eR os) #[.string ⟨#[]⟩] rfl (by kernel_rfl) (by kernel_rfl) (by kernel_rfl)
   (OpenSpec.preRow_of_cond 8 D (by kernel_rfl) (fun k I=>by cases I) (by kernel_rfl) (laid_met os))) ?_
 intro W base args ds gs before hval hW _ _ _ hL hsh _;exact contract H enc W base args ds gs before hval hW hL hsh
theorem said:Rows.ReadValuesSaid:=
 OpenClaim.holds_of_cond 8 Tryz.f8 rfl rfl rfl rfl rfl rfl rfl ⟨rfl,rfl,rfl,rfl,rfl⟩ rfl rfl rfl rfl rfl (by kernel_rfl) Tryz.func8 (by kernel_rfl)
  (of_decide_eq_true (by kernel_rfl)) (by unfold Func.isWrapper;first | (rw [if_pos (by decide +kernel)];kernel_rfl) | (rw [if_neg (by decide +kernel)];exact ⟨rfl,rfl⟩))
  (fun os started H enc _ F=>by rw [OpenClaim.pre_eq_preRow];exact lifted os started H enc F)
theorem plain (f:FuncId) (fn:Func) (I:Tryz.pinned.checked.prog.funcNamed "demotic/demoticlaw08.ReadValues" = some f) (D:Tryz.pinned.checked.prog.funcs[f]? = some fn) :
  true=Tryz.pinned.checked.prog.looks []∧∀ (j:Nat) t,fn.params[j]? = some t→Tryz.pinned.checked.prog.wantsStandIn t=false:=by obtain rfl:f=8:=Option.some.inj ((show Tryz.prog.funcNamed "demotic/demoticlaw08.ReadValues" = some 8 by kernel_rfl).symm.trans I) |>.symm;obtain rfl:fn=Tryz.f8:=(Option.some.inj (Tryz.func8.symm.trans D)).symm;refine ⟨by kernel_rfl,fun j t ht=>?_⟩;rw [Tryz.params8] at ht;(obtain rfl:t=9:=by simpa using Array.mem_of_getElem? ht);exact (show Tryz.prog.wantsStandIn 9=false by kernel_rfl)
theorem card:Rows.ReadValuesCardSaid:=
 Claim7.holds_tied_plain_at .later [] _ _ _ _ said (fun _ h=>by cases h) (by kernel_rfl) (fun _ h=>by cases h) readValues_row_tie rfl ⟨rfl,rfl⟩ (by kernel_rfl) rfl plain (by kernel_rfl)
end
end Go.Proofs.YtiebcdeafofgdaaGreatDoor.lawValues
