/-
  The statement ModuleManyCardSaid: whatever the small number, ModuleMany returns true.
  Its conditions: the seven listed variables read as the program's text lays them (the card ties them). By an AI agent.
-/
import Derived.Test.YtmmjgmcfdnkomaaGreatDoorL07
import Derived.Test.YtmmjgmcfdnkomaaGreatDoorL12
set_option maxRecDepth 100000
set_option maxHeartbeats 8000000
namespace Go.Proofs.YtmmjgmcfdnkomaaGreatDoor.lawleMany
section
open Go.ChangeShapes Go.WideShapes Go.ChangeAt Go.RowKit
open Go.ChangeMaps (open_string)
theorem u8_of {a:Int} (h:(Lit.int .u8 a).wf=true):0≤a∧a<256:=by rw [show (Lit.int .u8 a).wf=(decide (0≤a)&&decide (a≤255)) from rfl,Bool.and_eq_true,decide_eq_true_iff,decide_eq_true_iff] at h;exact ⟨h.1,by omega⟩
theorem contract (H:Type) (enc:TypeId × Value→H) (W:World) (base:Nat) (args:Array Value) (ds gs:List (DataW H)) (before:List MemPlace)
  (D:∀ (j:Nat) t v,Tryz.f4.params[j]? = some t→args[j]? = some v→Value.okWide Tryz.prog W .any base t v)
  (O:DataW.Whole enc Tryz.prog Tryz.f4.params.toList Rows.moduleManySpec.vars false W args.toList ds gs before) (M:laidMetH Tryz.prog Rows.moduleManyRow.laid W) (I:W.ShapedOpen Tryz.prog) :
  Calls Tryz.prog 4 args W fun e W'=>∃ v,e=.returned v∧Rows.moduleManySpec.post enc Tryz.prog Tryz.f4 false true false false W args v W':=by
 have x:laidMet Tryz.prog mP W:=M;have K:=O;obtain ⟨p,q,N,hV,rfl,r,o⟩:=O;have Q:DataW.TrodAll enc Tryz.prog W 0 (fun _=>true) true Tryz.f4.params.toList args.toList ds p:=N;rw [Tryz.params4] at Q D;obtain ⟨v0,U,d0,z,p0,q0,J,rfl,rfl,y,h⟩:=trodAll_cons Q;obtain ⟨rfl,rfl,rfl⟩:=trodAll_nil h;(obtain rfl:args = #[v0]:=by cases args;simp_all);obtain ⟨m,rfl,rfl,rfl,S⟩:=open_int Tryz.underlying5 (D 0 5 v0 rfl rfl) y;have hm:=u8_of S;obtain ⟨k,rfl⟩:∃ k:Nat,m=(k:Int):=⟨m.toNat,by omega⟩
 refine (te k (by omega) W (oT I x)).mono fun e W' ⟨u,hb⟩=>?_;subst u;exact ⟨_,rfl,mx K rfl rfl rfl rfl rfl (by rw [Tryz.params4];intro t ht;obtain rfl:t=5:=(by simpa using ht);exact ⟨by kernel_rfl,of_decide_eq_true (by kernel_rfl)⟩) hb⟩
theorem laid_met (os:Os):laidMet Tryz.prog Rows.moduleManyRow.laid ((cR os).forCall (fun _ _=>0) ⟨#[],#[.int .u8 0],[]⟩).memory:=
 laidMet_of_run' 8 (by kernel_rfl) (by kernel_rfl)
theorem reads (os:Os) {H:Type} (enc:TypeId × Value→H):∃ places,DataW.whole enc Tryz.prog ((cR os).forCall (fun _ _=>0) ⟨#[],#[.int .u8 0],[]⟩).memory Tryz.f4.params.toList Rows.moduleManySpec.vars false (#[.int .u8 0]:Array Value).toList 8=some ([.lit (.int .u8 0)],[],places):=
 ⟨[],by kernel_rfl⟩
theorem lifted (os:Os) (started:os.Started) (H:Type) (enc:TypeId × Value→H) (F:Stop.Interp) :
  ReturnsInHanded {} Tryz.checked os 4 .any ((OpenSpec.ofChange Rows.moduleManySpec).preRow enc Tryz.prog Tryz.f4 Rows.moduleManyRow.domain false Rows.moduleManyRow.laid) (((OpenSpec.ofChange Rows.moduleManySpec).at F).post enc Tryz.prog Tryz.f4 false true false false):=by
 obtain ⟨places,D⟩:=reads os enc;refine returnsInHanded_of_row (C:=Tryz.checked) (s:=OpenSpec.ofChange Rows.moduleManySpec) own started (by kernel_rfl) Tryz.func4
  (witness_row_at (enc:=enc) (C:=Tryz.checked) false (cR os) #[.int .u8 0] rfl (by kernel_rfl) (by kernel_rfl) (by kernel_rfl)
   (OpenSpec.preRow_of_cond 8 D (by kernel_rfl) (fun k I=>by cases I) (by kernel_rfl) (laid_met os))) ?_
 intro W base args ds gs before hval hW _ _ _ hL hsh _;exact contract H enc W base args ds gs before hval hW hL hsh
theorem facts:joinedFacts Tryz.pinned.checked.prog 4 Tryz.f4 (OpenSpec.ofChange Rows.moduleManySpec).bare Rows.moduleManyRow=true:=by unfold joinedFacts;(repeat' (with_reducible refine Bool.and_eq_true_iff.2 ⟨?_,?_⟩));all_goals as_aux_lemma=>kernel_rfl
theorem said:Rows.ModuleManySaid:=
 OpenClaim.holds_of_cond 4 Tryz.f4 rfl rfl rfl rfl rfl rfl rfl ⟨rfl,rfl,rfl,rfl,rfl⟩ rfl rfl rfl rfl rfl (by kernel_rfl) Tryz.func4 facts
  (of_decide_eq_true (by kernel_rfl)) (by unfold Func.isWrapper;first | (rw [if_pos (by decide +kernel)];kernel_rfl) | (rw [if_neg (by decide +kernel)];exact ⟨rfl,rfl⟩))
  (fun os started H enc _ F=>by rw [OpenClaim.pre_eq_preRow];exact lifted os started H enc F)
theorem plain (f:FuncId) (fn:Func) (I:Tryz.pinned.checked.prog.funcNamed "demotic/demoticlaw14.ModuleMany" = some f) (D:Tryz.pinned.checked.prog.funcs[f]? = some fn) :
  true=Tryz.pinned.checked.prog.looks []∧∀ (j:Nat) t,fn.params[j]? = some t→Tryz.pinned.checked.prog.wantsStandIn t=false:=by obtain rfl:f=4:=Option.some.inj ((show Tryz.prog.funcNamed "demotic/demoticlaw14.ModuleMany" = some 4 by kernel_rfl).symm.trans I) |>.symm;obtain rfl:fn=Tryz.f4:=(Option.some.inj (Tryz.func4.symm.trans D)).symm;refine ⟨by kernel_rfl,fun j t ht=>?_⟩;rw [Tryz.params4] at ht;(obtain rfl:t=5:=by simpa using Array.mem_of_getElem? ht);exact (show Tryz.prog.wantsStandIn 5=false by kernel_rfl)
theorem card:Rows.ModuleManyCardSaid:=
 Claim7.holds_tied_plain_at .later [] _ _ _ _ said (fun _ h=>by cases h) (by kernel_rfl) (fun _ h=>by cases h) moduleMany_row_tie rfl ⟨rfl,rfl⟩ (by kernel_rfl) rfl plain (by kernel_rfl)
end
end Go.Proofs.YtmmjgmcfdnkomaaGreatDoor.lawleMany
