/-
  The statement ReadWordsUptoCardSaid: whatever the node and the small number, where what is read is of bulk at most 1048576, ReadWords returns true and leaves it as it was.
  Its conditions: the two listed tables read as the program's text lays them (the card ties them). By an AI agent.
-/
import Derived.Test.YtiebcdeafofgdaaGreatDoorL13
import Derived.Test.YtiebcdeafofgdaaGreatDoorL28
set_option maxRecDepth 100000
set_option maxHeartbeats 8000000
namespace Go.Proofs.YtiebcdeafofgdaaGreatDoor.lawWords
section
open Go.ChangeShapes Go.WideShapes Go.ChangeAt Go.RowKit
open Go.ChangeMaps (open_string)
theorem u8_of {a:Int} (h:(Lit.int .u8 a).wf=true):0≤a∧a<256:=by rw [show (Lit.int .u8 a).wf=(decide (0≤a)&&decide (a≤255)) from rfl,Bool.and_eq_true,decide_eq_true_iff,decide_eq_true_iff] at h;exact ⟨h.1,by omega⟩
theorem contract (H:Type) (enc:TypeId × Value→H) (W:World) (base:Nat) (args:Array Value) (ds gs:List (DataW H)) (before:List MemPlace)
  (D:∀ (j:Nat) t v,Tryz.f6.params[j]? = some t→args[j]? = some v→Value.okWide Tryz.prog W .any base t v)
  (u:DataW.Whole enc Tryz.prog Tryz.f6.params.toList Rows.readWordsSpec.vars false W args.toList ds gs before) (hk:Rows.uptoSmall H (ds++gs)=true) (O:laidMetH Tryz.prog Rows.readWordsUptoRow.laid W) (J:W.ShapedOpen Tryz.prog) :
  Calls Tryz.prog 6 args W fun e W'=>∃ v,e=.returned v∧Rows.readWordsSpec.post enc Tryz.prog Tryz.f6 false true false false W args v W':=by have hL:laidMet Tryz.prog BW W:=O;have N:=u;obtain ⟨p,q,U,hV,rfl,gg,gd⟩:=u;have hA:DataW.TrodAll enc Tryz.prog W 0 (fun _=>true) true Tryz.f6.params.toList args.toList ds p:=U;rw [Tryz.params6] at hA D;obtain ⟨v0,gb,d0,gj,p0,q0,M,rfl,rfl,h0,r0⟩:=trodAll_cons hA;obtain ⟨v1,ga,d1,gi,p1,q1,rfl,rfl,rfl,h1,r1⟩:=trodAll_cons r0;obtain ⟨rfl,rfl,rfl⟩:=trodAll_nil r1;(obtain rfl:args = #[v0,v1]:=by cases args;simp_all);obtain ⟨k,rfl,rfl,rfl,w1⟩:=open_int Tryz.underlying5 (D 1 5 v1 rfl rfl) h1;have h:=u8_of w1;obtain ⟨n,hn,gh⟩:=wv (D 0 24 v0 rfl rfl) h0;have K:=of_decide_eq_true hk;(have ge:Rows.uptoBulk d0≤1048576:=by simp only [List.cons_append,Rows.uptoBulkAll] at K;omega);refine (BD v0 n k h.1 h.2 W (Ew J hL) hn (by omega)).mono fun e W' ⟨he,hb⟩=>?_;subst he;exact ⟨_,rfl,BF N rfl rfl rfl rfl rfl (by rw [Tryz.params6];intro t I;have I:t=24∨t=5:=(by simpa using I);rcases I with rfl | rfl <;> exact ⟨by kernel_rfl,of_decide_eq_true (by kernel_rfl)⟩) hb⟩
theorem laid_met (os:Os):laidMet Tryz.prog Rows.readWordsUptoRow.laid ((nR os).forCall (fun _ _=>0) ⟨#[],#[ss,.int .u8 0],[]⟩).memory:=
 laidMet_of_run' 8 (by kernel_rfl) (by kernel_rfl)
theorem reads (os:Os) {H:Type} (enc:TypeId × Value→H):∃ places,DataW.whole enc Tryz.prog ((nR os).forCall (fun _ _=>0) ⟨#[],#[ss,.int .u8 0],[]⟩).memory Tryz.f6.params.toList Rows.readWordsSpec.vars false (#[ss,.int .u8 0]:Array Value).toList 8=some ([Gf,.lit (.int .u8 0)],[],places):=
 ⟨[],by kernel_rfl⟩
theorem lifted (os:Os) (started:os.Started) (H:Type) (enc:TypeId × Value→H) (F:Stop.Interp) :
  ReturnsInHanded {} Tryz.checked os 6 .any ((Rows.OpenSpec.upto Rows.readWordsSpec).preRow enc Tryz.prog Tryz.f6 Rows.readWordsUptoRow.domain false Rows.readWordsUptoRow.laid) (((Rows.OpenSpec.upto Rows.readWordsSpec).at F).post enc Tryz.prog Tryz.f6 false true false false):=by
 obtain ⟨places,I⟩:=reads os enc;refine returnsInHanded_of_row (C:=Tryz.checked) (s:=Rows.OpenSpec.upto Rows.readWordsSpec) own started (by kernel_rfl) Tryz.func6
  (witness_row_at (enc:=enc) (C:=Tryz.checked) false (nR os) #[ss,.int .u8 0] rfl (by kernel_rfl) (by kernel_rfl) (by kernel_rfl)
   (OpenSpec.preRow_of_cond 8 I (by kernel_rfl) (fun k J=>by cases J;kernel_rfl) (by kernel_rfl) (laid_met os))) ?_
 intro W base args ds gs before hval hW _ D _ hL hsh _;exact contract H enc W base args ds gs before hval hW (D _ rfl) hL hsh
theorem said:Rows.ReadWordsUptoSaid:=
 OpenClaim.holds_of_cond 6 Tryz.f6 rfl rfl rfl rfl rfl rfl rfl ⟨rfl,rfl,rfl,rfl,rfl⟩ rfl rfl rfl rfl rfl (by kernel_rfl) Tryz.func6 (by kernel_rfl)
  (of_decide_eq_true (by kernel_rfl)) (by unfold Func.isWrapper;first | (rw [if_pos (by decide +kernel)];kernel_rfl) | (rw [if_neg (by decide +kernel)];exact ⟨rfl,rfl⟩))
  (fun os started H enc _ F=>by rw [OpenClaim.pre_eq_preRow];exact lifted os started H enc F)
theorem plain (f:FuncId) (fn:Func) (J:Tryz.pinned.checked.prog.funcNamed "demotic/demoticlaw08.ReadWords" = some f) (I:Tryz.pinned.checked.prog.funcs[f]? = some fn) :
  true=Tryz.pinned.checked.prog.looks []∧∀ (j:Nat) t,fn.params[j]? = some t→Tryz.pinned.checked.prog.wantsStandIn t=false:=by
 obtain rfl:f=6:=Option.some.inj ((show Tryz.prog.funcNamed "demotic/demoticlaw08.ReadWords" = some 6 by kernel_rfl).symm.trans J) |>.symm;obtain rfl:fn=Tryz.f6:=(Option.some.inj (Tryz.func6.symm.trans I)).symm;refine ⟨by kernel_rfl,fun j t D=>?_⟩;rw [Tryz.params6] at D;(have D:t=24∨t=5:=by simpa using Array.mem_of_getElem? D);rcases D with rfl | rfl
 ·exact (show Tryz.prog.wantsStandIn 24=false by kernel_rfl)
 ·exact (show Tryz.prog.wantsStandIn 5=false by kernel_rfl)
theorem card:Rows.ReadWordsUptoCardSaid:=
 Claim7.holds_tied_plain_at .later [] _ _ _ _ said (fun _ h=>by cases h) (by kernel_rfl) (fun _ h=>by cases h) readWordsUpto_row_tie rfl ⟨rfl,rfl⟩ (by kernel_rfl) rfl plain (by kernel_rfl)
end
end Go.Proofs.YtiebcdeafofgdaaGreatDoor.lawWords
