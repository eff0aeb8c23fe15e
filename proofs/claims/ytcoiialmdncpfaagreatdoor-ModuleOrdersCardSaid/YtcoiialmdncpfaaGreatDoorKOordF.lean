/-
  The statement ModuleOrdersCardSaid: whatever the module, the files and the tags, ModuleOrders returns true and leaves them as they were.
  Its conditions: the seven listed variables read as the program's text lays them (the card ties them). By an AI agent.
-/
import Derived.Test.YtcoiialmdncpfaaGreatDoorJ19
import Derived.Test.YtcoiialmdncpfaaGreatDoorJ17
import Derived.Test.YtcoiialmdncpfaaGreatDoorJ35
open Go.Proofs.Tryz
set_option maxRecDepth 100000
set_option maxHeartbeats 8000000
namespace Go.Proofs.YtcoiialmdncpfaaGreatDoor.lawleOrders
section
open Go.ChangeShapes Go.WideShapes Go.ChangeAt Go.RowKit
open Go.ChangeMaps (open_string)
theorem contract(H:Type)(enc:TypeId×Value->H)(W:World)(base:Nat)(args:Array Value)(ds gs:List (DataW H))(before:List MemPlace)
  (D:∀(j:Nat)t v,Tryz.f3.params[j]? = some t->args[j]? = some v->Value.okWide prog W .any base t v)
  (z:DataW.Whole enc prog Tryz.f3.params.toList Rows.moduleOrdersSpec.vars false W args.toList ds gs before)(x:laidMetH prog Rows.moduleOrdersRow.laid W)(M:W.ShapedOpen prog):
  Calls prog 3 args W fun e W'=>∃v,e=.returned v/\Rows.moduleOrdersSpec.post enc prog Tryz.f3 false true false false W args v W':=by have hL:laidMet prog uA W:=x;have h:=z;obtain⟨p,q,y,hV,rfl,gg,ge⟩:=z;have hA:DataW.TrodAll enc prog W 0 (fun _=>true) true Tryz.f3.params.toList args.toList ds p:=y;rw[Tryz.params3]at hA D;obtain⟨v0,gd,d0,gj,p0,q0,O,rfl,rfl,h0,r0⟩:=trodAll_cons hA;obtain⟨v1,gb,d1,gi,p1,q1,rfl,rfl,rfl,h1,r1⟩:=trodAll_cons r0;obtain⟨v2,ga,d2,gh,p2,q2,rfl,rfl,rfl,h2,r2⟩:=trodAll_cons r1;obtain⟨rfl,rfl,rfl⟩:=trodAll_nil r2;(obtain rfl:args = #[v0,v1,v2]:=by cases args;simp_all);obtain⟨Am,cm,sm,rfl,hv⟩:=BT (D 0 22 v0 rfl rfl) h0;obtain⟨A,n,c,l,rfl,hl,hr,hx⟩:=B3 (D 1 23 v1 rfl rfl) h1;obtain⟨At,ct,tags,rfl,I⟩:=DE (D 2 24 v2 rfl rfl) h2;refine(EP A n c l Am cm sm At ct tags W hv hl hr hx (ML M hL) (MT hL) I).mono fun e W'⟨he,hb⟩=>?_;subst he;exact⟨_,rfl,GW h rfl rfl rfl rfl rfl (by rw[Tryz.params3];intro t J;have J:t=22\/t=23\/t=24:=(by simpa using J);rcases J with rfl|rfl|rfl<;>exact⟨by kernel_rfl,of_decide_eq_true (by kernel_rfl)⟩) hb⟩
theorem laid_met(os:Os):laidMet prog Rows.moduleOrdersRow.laid ((sv os).forCall (fun _ _=>0) ⟨#[],#[.slice none 0 0,.slice none 0 0,.slice none 0 0],[]⟩).memory:=
 laidMet_of_run' 8 (by kernel_rfl) (by kernel_rfl)
theorem reads(os:Os){H:Type}(enc:TypeId×Value->H):∃places,DataW.whole enc prog ((sv os).forCall (fun _ _=>0) ⟨#[],#[.slice none 0 0,.slice none 0 0,.slice none 0 0],[]⟩).memory Tryz.f3.params.toList Rows.moduleOrdersSpec.vars false (#[.slice none 0 0,.slice none 0 0,.slice none 0 0]:Array Value).toList 8=some ([.nil,.nil,.nil],[],places):=
 ⟨[],by kernel_rfl⟩
theorem lifted(os:Os)(started:os.Started)(H:Type)(enc:TypeId×Value->H)(F:Stop.Interp):
  ReturnsInHanded {} Tryz.checked os 3 .any ((OpenSpec.ofChange Rows.moduleOrdersSpec).preRow enc prog Tryz.f3 Rows.moduleOrdersRow.domain false Rows.moduleOrdersRow.laid) (((OpenSpec.ofChange Rows.moduleOrdersSpec).at F).post enc prog Tryz.f3 false true false false):=by
 obtain⟨places,D⟩:=reads os enc;refine returnsInHanded_of_row (C:=Tryz.checked) (s:=OpenSpec.ofChange Rows.moduleOrdersSpec) own started (by kernel_rfl) func3
  (witness_row_at (enc:=enc) (C:=Tryz.checked) false (sv os) #[.slice none 0 0,.slice none 0 0,.slice none 0 0] rfl (by kernel_rfl) (by kernel_rfl) (by kernel_rfl)
   (OpenSpec.preRow_of_cond 8 D (by kernel_rfl) (fun k I=>by cases I) (by kernel_rfl) (laid_met os))) ?_
 intro W base args ds gs before hval hW _ _ _ hL hsh _;exact contract H enc W base args ds gs before hval hW hL hsh
theorem facts:joinedFacts Tryz.pinned.checked.prog 3 Tryz.f3 (OpenSpec.ofChange Rows.moduleOrdersSpec).bare Rows.moduleOrdersRow=true:=by unfold joinedFacts;(repeat'(with_reducible refine Bool.and_eq_true_iff.2 ⟨?_,?_⟩));all_goals as_aux_lemma=>kernel_rfl
theorem said:Rows.ModuleOrdersSaid:=
 OpenClaim.holds_of_cond 3 Tryz.f3 rfl rfl rfl rfl rfl rfl rfl ⟨rfl,rfl,rfl,rfl,rfl⟩ rfl rfl rfl rfl rfl (by kernel_rfl) func3 facts
  (of_decide_eq_true (by kernel_rfl)) (by unfold Func.isWrapper;first|(rw[if_pos (by decide +kernel)];kernel_rfl)|(rw[if_neg (by decide +kernel)];exact⟨rfl,rfl⟩))
  (fun os started H enc _ F=>by rw[OpenClaim.pre_eq_preRow];exact lifted os started H enc F)
theorem plain(f:FuncId)(fn:Func)(J:Tryz.pinned.checked.prog.funcNamed "demotic/demoticlaw14.ModuleOrders" = some f)(I:Tryz.pinned.checked.prog.funcs[f]? = some fn):
  true=Tryz.pinned.checked.prog.looks []/\∀(j:Nat)t,fn.params[j]? = some t->Tryz.pinned.checked.prog.wantsStandIn t=false:=by
 obtain rfl:f=3:=Option.some.inj ((show prog.funcNamed "demotic/demoticlaw14.ModuleOrders" = some 3 by kernel_rfl).symm.trans J) |>.symm;obtain rfl:fn=Tryz.f3:=(Option.some.inj (func3.symm.trans I)).symm;refine⟨by kernel_rfl,fun j t D=>?_⟩;rw[Tryz.params3]at D;(have D:t=22\/t=23\/t=24:=by simpa using Array.mem_of_getElem? D);rcases D with rfl|rfl|rfl
 ·exact(show prog.wantsStandIn 22=false by kernel_rfl)
 ·exact(show prog.wantsStandIn 23=false by kernel_rfl)
 ·exact(show prog.wantsStandIn 24=false by kernel_rfl)
theorem card:Rows.ModuleOrdersCardSaid:=
 Claim7.holds_tied_plain_at .later [] _ _ _ _ said (fun _ h=>by cases h) (by kernel_rfl) (fun _ h=>by cases h) moduleOrders_row_tie rfl ⟨rfl,rfl⟩ (by kernel_rfl) rfl plain (by kernel_rfl)
end
end Go.Proofs.YtcoiialmdncpfaaGreatDoor.lawleOrders
