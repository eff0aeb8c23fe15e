/-
  The statement ReadShowsUptoCardSaid: whatever the two nodes, where what is read is of bulk at most 1048576, ReadShows returns true and leaves them as they were.
  Its conditions: the two listed tables read as the program's text lays them (the card ties them). By an AI agent.
-/
import Derived.Test.YteialcjaiocjdaaGreatDoorJ22
import Derived.Test.YteialcjaiocjdaaGreatDoorJ51
open Go.Proofs.Tryz
set_option maxRecDepth 100000
set_option maxHeartbeats 8000000
namespace Go.Proofs.YteialcjaiocjdaaGreatDoor.lawShows
section
open Go.ChangeShapes Go.WideShapes Go.ChangeAt Go.RowKit
open Go.ChangeMaps (open_string)
theorem contract(H:Type)(enc:TypeId×Value->H)(W:World)(base:Nat)(args:Array Value)(ds gs:List (DataW H))(before:List MemPlace)
  (D:∀(j:Nat)t v,Tryz.f3.params[j]? = some t->args[j]? = some v->Value.okWide prog W .any base t v)
  (h:DataW.Whole enc prog Tryz.f3.params.toList Rows.readShowsSpec.vars false W args.toList ds gs before)(hk:Rows.uptoSmall H (ds++gs)=true)(O:laidMetH prog Rows.readShowsUptoRow.laid W)(J:W.ShapedOpen prog):
  Calls prog 3 args W fun e W'=>∃v,e=.returned v/\Rows.readShowsSpec.post enc prog Tryz.f3 false true false false W args v W':=by have hL:laidMet prog Lq W:=O;have N:=h;obtain⟨p,q,U,hV,rfl,gh,gd⟩:=h;have hA:DataW.TrodAll enc prog W 0 (fun _=>true) true Tryz.f3.params.toList args.toList ds p:=U;rw[Tryz.params3]at hA D;obtain⟨v0,gb,d0,gl,p0,q0,M,rfl,rfl,h0,r0⟩:=trodAll_cons hA;obtain⟨v1,ga,d1,gk,p1,q1,rfl,rfl,rfl,h1,r1⟩:=trodAll_cons r0;obtain⟨rfl,rfl,rfl⟩:=trodAll_nil r1;(obtain rfl:args = #[v0,v1]:=by cases args;simp_all);obtain⟨n,hn,gj⟩:=wi (D 0 24 v0 rfl rfl) h0;obtain⟨x,hx,gi⟩:=wi (D 1 24 v1 rfl rfl) h1;have I:=of_decide_eq_true hk;(have gg:Rows.uptoBulk d0<=1048576:=by simp only[List.cons_append,Rows.uptoBulkAll]at I;omega);(have ge:Rows.uptoBulk d1<=1048576:=by simp only[List.cons_append,Rows.uptoBulkAll]at I;omega);refine(I0 v0 v1 n x W (Pb J hL) hn hx (by omega) (by omega)).mono fun e W'⟨he,hb⟩=>?_;subst he;exact⟨_,rfl,I8 N rfl rfl rfl rfl rfl (by rw[Tryz.params3];intro t ht;obtain rfl:t=24:=(by simpa using ht);exact⟨by kernel_rfl,of_decide_eq_true (by kernel_rfl)⟩) hb⟩
theorem laid_met(os:Os):laidMet prog Rows.readShowsUptoRow.laid ((sR os).forCall (fun _ _=>0) ⟨#[],#[o7,o7],[]⟩).memory:=
 laidMet_of_run' 8 (by kernel_rfl) (by kernel_rfl)
theorem reads(os:Os){H:Type}(enc:TypeId×Value->H):∃places,DataW.whole enc prog ((sR os).forCall (fun _ _=>0) ⟨#[],#[o7,o7],[]⟩).memory Tryz.f3.params.toList Rows.readShowsSpec.vars false (#[o7,o7]:Array Value).toList 8=some ([Lt,Lt],[],places):=
 ⟨[],by kernel_rfl⟩
theorem lifted(os:Os)(started:os.Started)(H:Type)(enc:TypeId×Value->H)(F:Stop.Interp):
  ReturnsInHanded {} Tryz.checked os 3 .any ((Rows.OpenSpec.upto Rows.readShowsSpec).preRow enc prog Tryz.f3 Rows.readShowsUptoRow.domain false Rows.readShowsUptoRow.laid) (((Rows.OpenSpec.upto Rows.readShowsSpec).at F).post enc prog Tryz.f3 false true false false):=by
 obtain⟨places,I⟩:=reads os enc;refine returnsInHanded_of_row (C:=Tryz.checked) (s:=Rows.OpenSpec.upto Rows.readShowsSpec) own started (by kernel_rfl) func3
  (witness_row_at (enc:=enc) (C:=Tryz.checked) false (sR os) #[o7,o7] rfl (by kernel_rfl) (by kernel_rfl) (by kernel_rfl)
   (OpenSpec.preRow_of_cond 8 I (by kernel_rfl) (fun k J=>by cases J;kernel_rfl) (by kernel_rfl) (laid_met os))) ?_
 intro W base args ds gs before hval hW _ D _ hL hsh _;exact contract H enc W base args ds gs before hval hW (D _ rfl) hL hsh
theorem said:Rows.ReadShowsUptoSaid:=
 OpenClaim.holds_of_cond 3 Tryz.f3 rfl rfl rfl rfl rfl rfl rfl ⟨rfl,rfl,rfl,rfl,rfl⟩ rfl rfl rfl rfl rfl (by kernel_rfl) func3 (by kernel_rfl)
  (of_decide_eq_true (by kernel_rfl)) (by unfold Func.isWrapper;first|(rw[if_pos (by decide +kernel)];kernel_rfl)|(rw[if_neg (by decide +kernel)];exact⟨rfl,rfl⟩))
  (fun os started H enc _ F=>by rw[OpenClaim.pre_eq_preRow];exact lifted os started H enc F)
theorem plain(f:FuncId)(fn:Func)(I:Tryz.pinned.checked.prog.funcNamed "demotic/demoticlaw08.ReadShows" = some f)(D:Tryz.pinned.checked.prog.funcs[f]? = some fn):
  true=Tryz.pinned.checked.prog.looks []/\∀(j:Nat)t,fn.params[j]? = some t->Tryz.pinned.checked.prog.wantsStandIn t=false:=by obtain rfl:f=3:=Option.some.inj ((show prog.funcNamed "demotic/demoticlaw08.ReadShows" = some 3 by kernel_rfl).symm.trans I) |>.symm;obtain rfl:fn=Tryz.f3:=(Option.some.inj (func3.symm.trans D)).symm;refine⟨by kernel_rfl,fun j t ht=>?_⟩;rw[Tryz.params3]at ht;(obtain rfl:t=24:=by simpa using Array.mem_of_getElem? ht);exact(show prog.wantsStandIn 24=false by kernel_rfl)
theorem card:Rows.ReadShowsUptoCardSaid:=
 Claim7.holds_tied_plain_at .later [] _ _ _ _ said (fun _ h=>by cases h) (by kernel_rfl) (fun _ h=>by cases h) readShowsUpto_row_tie rfl ⟨rfl,rfl⟩ (by kernel_rfl) rfl plain (by kernel_rfl)
end
end Go.Proofs.YteialcjaiocjdaaGreatDoor.lawShows
