/-
  The statement ReadAgainCardSaid: whatever the bytes, ReadAgain returns true and leaves them as they were.
  Its conditions: the two listed tables read as the program's text lays them (the card ties them). By an AI agent.
-/
import Derived.Test.YtiebcdeafofgdaaGreatDoorJ11
import Derived.Test.YtiebcdeafofgdaaGreatDoorJ24
set_option maxRecDepth 100000
set_option maxHeartbeats 8000000
namespace Go.Proofs.YtiebcdeafofgdaaGreatDoor.lawAgain
section
open Go.ChangeShapes Go.WideShapes Go.ChangeAt Go.RowKit
open Go.ChangeMaps (open_string)
theorem contract(H:Type)(enc:TypeId×Value->H)(W:World)(base:Nat)(args:Array Value)(ds gs:List (DataW H))(before:List MemPlace)
  (D:∀(j:Nat)t v,Tryz.f7.params[j]? = some t->args[j]? = some v->Value.okWide Tryz.prog W .any base t v)
  (hW:DataW.Whole enc Tryz.prog Tryz.f7.params.toList Rows.readAgainSpec.vars false W args.toList ds gs before)(N:laidMetH Tryz.prog Rows.readAgainRow.laid W)(I:W.ShapedOpen Tryz.prog):
  Calls Tryz.prog 7 args W fun e W'=>∃v,e=.returned v/\Rows.readAgainSpec.post enc Tryz.prog Tryz.f7 false true false false W args v W':=by have hL:laidMet Tryz.prog Lz W:=N;have M:=hW;obtain⟨p,q,O,hV,rfl,gb,ga⟩:=hW;have U:DataW.TrodAll enc Tryz.prog W 0 (fun _=>true) true Tryz.f7.params.toList args.toList ds p:=O;rw[Tryz.params7]at U D;obtain⟨v0,h,d0,gd,p0,q0,J,rfl,rfl,h0,r0⟩:=trodAll_cons U;obtain⟨rfl,rfl,rfl⟩:=trodAll_nil r0;(obtain rfl:args = #[v0]:=by cases args;simp_all);obtain⟨A,c,s,rfl,hv⟩:=Da (D 0 27 v0 rfl rfl) h0;refine(Le A c s W hv (O0 I hL)).mono fun e W'⟨he,hb⟩=>?_;subst he;exact⟨_,rfl,Li M rfl rfl rfl rfl rfl (by rw[Tryz.params7];intro t ht;obtain rfl:t=27:=(by simpa using ht);exact⟨by kernel_rfl,of_decide_eq_true (by kernel_rfl)⟩) hb⟩
theorem laid_met(os:Os):laidMet Tryz.prog Rows.readAgainRow.laid ((tT os).forCall (fun _ _=>0) ⟨#[],#[.slice none 0 0],[]⟩).memory:=
 laidMet_of_run' 8 (by kernel_rfl) (by kernel_rfl)
theorem reads(os:Os){H:Type}(enc:TypeId×Value->H):∃places,DataW.whole enc Tryz.prog ((tT os).forCall (fun _ _=>0) ⟨#[],#[.slice none 0 0],[]⟩).memory Tryz.f7.params.toList Rows.readAgainSpec.vars false (#[.slice none 0 0]:Array Value).toList 8=some ([.nil],[],places):=
 ⟨[],by kernel_rfl⟩
theorem lifted(os:Os)(started:os.Started)(H:Type)(enc:TypeId×Value->H)(F:Stop.Interp):
  ReturnsInHanded {} Tryz.checked os 7 .any ((OpenSpec.ofChange Rows.readAgainSpec).preRow enc Tryz.prog Tryz.f7 Rows.readAgainRow.domain false Rows.readAgainRow.laid) (((OpenSpec.ofChange Rows.readAgainSpec).at F).post enc Tryz.prog Tryz.f7 false true false false):=by
 obtain⟨places,D⟩:=reads os enc;refine returnsInHanded_of_row (C:=Tryz.checked) (s:=OpenSpec.ofChange Rows.readAgainSpec) own started (by kernel_rfl) Tryz.func7
  (witness_row_at (enc:=enc) (C:=Tryz.checked) false (tT os) #[.slice none 0 0] rfl (by kernel_rfl) (by kernel_rfl) (by kernel_rfl)
   (OpenSpec.preRow_of_cond 8 D (by kernel_rfl) (fun k I=>by cases I) (by kernel_rfl) (laid_met os))) ?_
 intro W base args ds gs before hval hW _ _ _ hL hsh _;exact contract H enc W base args ds gs before hval hW hL hsh
theorem said:Rows.ReadAgainSaid:=
 OpenClaim.holds_of_cond 7 Tryz.f7 rfl rfl rfl rfl rfl rfl rfl ⟨rfl,rfl,rfl,rfl,rfl⟩ rfl rfl rfl rfl rfl (by kernel_rfl) Tryz.func7 (by kernel_rfl)
  (of_decide_eq_true (by kernel_rfl)) (by unfold Func.isWrapper;first|(rw[if_pos (by decide +kernel)];kernel_rfl)|(rw[if_neg (by decide +kernel)];exact⟨rfl,rfl⟩))
  (fun os started H enc _ F=>by rw[OpenClaim.pre_eq_preRow];exact lifted os started H enc F)
theorem plain(f:FuncId)(fn:Func)(I:Tryz.pinned.checked.prog.funcNamed "demotic/demoticlaw08.ReadAgain" = some f)(D:Tryz.pinned.checked.prog.funcs[f]? = some fn):
  true=Tryz.pinned.checked.prog.looks []/\∀(j:Nat)t,fn.params[j]? = some t->Tryz.pinned.checked.prog.wantsStandIn t=false:=by obtain rfl:f=7:=Option.some.inj ((show Tryz.prog.funcNamed "demotic/demoticlaw08.ReadAgain" = some 7 by kernel_rfl).symm.trans I) |>.symm;obtain rfl:fn=Tryz.f7:=(Option.some.inj (Tryz.func7.symm.trans D)).symm;refine⟨by kernel_rfl,fun j t ht=>?_⟩;rw[Tryz.params7]at ht;(obtain rfl:t=27:=by simpa using Array.mem_of_getElem? ht);exact(show Tryz.prog.wantsStandIn 27=false by kernel_rfl)
theorem card:Rows.ReadAgainCardSaid:=
 Claim7.holds_tied_plain_at .later [] _ _ _ _ said (fun _ h=>by cases h) (by kernel_rfl) (fun _ h=>by cases h) readAgain_row_tie rfl ⟨rfl,rfl⟩ (by kernel_rfl) rfl plain (by kernel_rfl)
end
end Go.Proofs.YtiebcdeafofgdaaGreatDoor.lawAgain
