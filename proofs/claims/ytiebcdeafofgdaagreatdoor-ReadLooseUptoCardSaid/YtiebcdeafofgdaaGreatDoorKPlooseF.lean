/-
  The statement ReadLooseUptoCardSaid: whatever the node, where what is read is of bulk at most 1048576, ReadLoose returns true and leaves it as it was.
  Its conditions: the two listed tables read as the program's text lays them (the card ties them). By an AI agent.
-/
import Derived.Test.YtiebcdeafofgdaaGreatDoorJ22
import Derived.Test.YtiebcdeafofgdaaGreatDoorJ50
open Go.Proofs.Tryz
set_option maxRecDepth 100000
set_option maxHeartbeats 8000000
namespace Go.Proofs.YtiebcdeafofgdaaGreatDoor.lawLoose
section
open Go.ChangeShapes Go.WideShapes Go.ChangeAt Go.RowKit
open Go.ChangeMaps (open_string)
theorem contract(H:Type)(enc:TypeId×Value->H)(W:World)(base:Nat)(args:Array Value)(ds gs:List (DataW H))(before:List MemPlace)
  (D:∀(j:Nat)t v,Tryz.f4.params[j]? = some t->args[j]? = some v->Value.okWide prog W .any base t v)
  (h:DataW.Whole enc prog Tryz.f4.params.toList Rows.readLooseSpec.vars false W args.toList ds gs before)(hk:Rows.uptoSmall H (ds++gs)=true)(O:laidMetH prog Rows.readLooseUptoRow.laid W)(I:W.ShapedOpen prog):
  Calls prog 4 args W fun e W'=>∃v,e=.returned v/\Rows.readLooseSpec.post enc prog Tryz.f4 false true false false W args v W':=by have hL:laidMet prog IZ W:=O;have N:=h;obtain⟨p,q,U,hV,rfl,ge,gb⟩:=h;have hA:DataW.TrodAll enc prog W 0 (fun _=>true) true Tryz.f4.params.toList args.toList ds p:=U;rw[Tryz.params4]at hA D;obtain⟨v0,ga,d0,gh,p0,q0,M,rfl,rfl,h0,r0⟩:=trodAll_cons hA;obtain⟨rfl,rfl,rfl⟩:=trodAll_nil r0;(obtain rfl:args = #[v0]:=by cases args;simp_all);obtain⟨n,hn,gg⟩:=Ea (D 0 24 v0 rfl rfl) h0;have J:=of_decide_eq_true hk;(have gd:Rows.uptoBulk d0<=1048576:=by simp only[List.cons_append,Rows.uptoBulkAll]at J;omega);refine(IA v0 n W (OI I hL) hn (by omega)).mono fun e W'⟨he,hb⟩=>?_;subst he;exact⟨_,rfl,IH N rfl rfl rfl rfl rfl (by rw[Tryz.params4];intro t ht;obtain rfl:t=24:=(by simpa using ht);exact⟨by kernel_rfl,of_decide_eq_true (by kernel_rfl)⟩) hb⟩
theorem laid_met(os:Os):laidMet prog Rows.readLooseUptoRow.laid ((sM os).forCall (fun _ _=>0) ⟨#[],#[Aq],[]⟩).memory:=
 laidMet_of_run' 8 (by kernel_rfl) (by kernel_rfl)
theorem reads(os:Os){H:Type}(enc:TypeId×Value->H):∃places,DataW.whole enc prog ((sM os).forCall (fun _ _=>0) ⟨#[],#[Aq],[]⟩).memory Tryz.f4.params.toList Rows.readLooseSpec.vars false (#[Aq]:Array Value).toList 8=some ([RN],[],places):=
 ⟨[],by kernel_rfl⟩
theorem lifted(os:Os)(started:os.Started)(H:Type)(enc:TypeId×Value->H)(F:Stop.Interp):
  ReturnsInHanded {} Tryz.checked os 4 .any ((Rows.OpenSpec.upto Rows.readLooseSpec).preRow enc prog Tryz.f4 Rows.readLooseUptoRow.domain false Rows.readLooseUptoRow.laid) (((Rows.OpenSpec.upto Rows.readLooseSpec).at F).post enc prog Tryz.f4 false true false false):=by
 obtain⟨places,I⟩:=reads os enc;refine returnsInHanded_of_row (C:=Tryz.checked) (s:=Rows.OpenSpec.upto Rows.readLooseSpec) own started (by kernel_rfl) func4
  (witness_row_at (enc:=enc) (C:=Tryz.checked) false (sM os) #[Aq] rfl (by kernel_rfl) (by kernel_rfl) (by kernel_rfl)
   (OpenSpec.preRow_of_cond 8 I (by kernel_rfl) (fun k J=>by cases J;kernel_rfl) (by kernel_rfl) (laid_met os))) ?_
 intro W base args ds gs before hval hW _ D _ hL hsh _;exact contract H enc W base args ds gs before hval hW (D _ rfl) hL hsh
theorem said:Rows.ReadLooseUptoSaid:=
 OpenClaim.holds_of_cond 4 Tryz.f4 rfl rfl rfl rfl rfl rfl rfl ⟨rfl,rfl,rfl,rfl,rfl⟩ rfl rfl rfl rfl rfl (by kernel_rfl) func4 (by kernel_rfl)
  (of_decide_eq_true (by kernel_rfl)) (by unfold Func.isWrapper;first|(rw[if_pos (by decide +kernel)];kernel_rfl)|(rw[if_neg (by decide +kernel)];exact⟨rfl,rfl⟩))
  (fun os started H enc _ F=>by rw[OpenClaim.pre_eq_preRow];exact lifted os started H enc F)
theorem plain(f:FuncId)(fn:Func)(I:Tryz.pinned.checked.prog.funcNamed "demotic/demoticlaw08.ReadLoose" = some f)(D:Tryz.pinned.checked.prog.funcs[f]? = some fn):
  true=Tryz.pinned.checked.prog.looks []/\∀(j:Nat)t,fn.params[j]? = some t->Tryz.pinned.checked.prog.wantsStandIn t=false:=by obtain rfl:f=4:=Option.some.inj ((show prog.funcNamed "demotic/demoticlaw08.ReadLoose" = some 4 by kernel_rfl).symm.trans I) |>.symm;obtain rfl:fn=Tryz.f4:=(Option.some.inj (func4.symm.trans D)).symm;refine⟨by kernel_rfl,fun j t ht=>?_⟩;rw[Tryz.params4]at ht;(obtain rfl:t=24:=by simpa using Array.mem_of_getElem? ht);exact(show prog.wantsStandIn 24=false by kernel_rfl)
theorem card:Rows.ReadLooseUptoCardSaid:=
 Claim7.holds_tied_plain_at .later [] _ _ _ _ said (fun _ h=>by cases h) (by kernel_rfl) (fun _ h=>by cases h) readLooseUpto_row_tie rfl ⟨rfl,rfl⟩ (by kernel_rfl) rfl plain (by kernel_rfl)
end
end Go.Proofs.YtiebcdeafofgdaaGreatDoor.lawLoose
