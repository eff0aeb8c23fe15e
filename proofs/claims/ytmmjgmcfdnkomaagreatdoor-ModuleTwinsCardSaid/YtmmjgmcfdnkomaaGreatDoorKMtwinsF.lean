/-
  The statement ModuleTwinsCardSaid: whatever the two rows of bytes and the small number, ModuleTwins returns true and leaves them as they were.
  Its conditions: the seven listed variables read as the program's text lays them (the card ties them). By an AI agent.
-/
import Derived.Test.YtmmjgmcfdnkomaaGreatDoorJ07
import Derived.Test.YtmmjgmcfdnkomaaGreatDoorJ11
set_option maxRecDepth 100000
set_option maxHeartbeats 8000000
namespace Go.Proofs.YtmmjgmcfdnkomaaGreatDoor.lawleTwins
section
open Go.ChangeShapes Go.WideShapes Go.ChangeAt Go.RowKit
open Go.ChangeMaps (open_string)
theorem u8_of {a:Int} (h:(Lit.int .u8 a).wf=true):0≤a∧a<256:=by rw [show (Lit.int .u8 a).wf=(decide (0≤a)&&decide (a≤255)) from rfl,Bool.and_eq_true,decide_eq_true_iff,decide_eq_true_iff] at h;exact ⟨h.1,by omega⟩
theorem contract (H:Type) (enc:TypeId × Value→H) (W:World) (base:Nat) (args:Array Value) (ds gs:List (DataW H)) (before:List MemPlace)
  (D:∀ (j:Nat) t v,Tryz.f5.params[j]? = some t→args[j]? = some v→Value.okWide Tryz.prog W .any base t v)
  (S:DataW.Whole enc Tryz.prog Tryz.f5.params.toList Rows.moduleTwinsSpec.vars false W args.toList ds gs before) (O:laidMetH Tryz.prog Rows.moduleTwinsRow.laid W) (K:W.ShapedOpen Tryz.prog) :
  Calls Tryz.prog 5 args W fun e W'=>∃ v,e=.returned v∧Rows.moduleTwinsSpec.post enc Tryz.prog Tryz.f5 false true false false W args v W':=by
 have hL:laidMet Tryz.prog nw W:=O;have N:=S;obtain ⟨p,q,Q,hV,rfl,gb,ga⟩:=S;have U:DataW.TrodAll enc Tryz.prog W 0 (fun _=>true) true Tryz.f5.params.toList args.toList ds p:=Q;rw [Tryz.params5] at U D;obtain ⟨v0,u,d0,gg,p0,q0,M,rfl,rfl,h0,r0⟩:=trodAll_cons U;obtain ⟨v1,r,d1,ge,p1,q1,rfl,rfl,rfl,h1,z⟩:=trodAll_cons r0;obtain ⟨v2,o,d2,gd,p2,q2,rfl,rfl,rfl,h2,y⟩:=trodAll_cons z;obtain ⟨rfl,rfl,rfl⟩:=trodAll_nil y;(obtain rfl:args = #[v0,v1,v2]:=by cases args;simp_all);obtain ⟨A,c,s,rfl,hv⟩:=fu (D 0 22 v0 rfl rfl) h0;obtain ⟨A2,c2,x,rfl,I⟩:=fu (D 1 22 v1 rfl rfl) h1;obtain ⟨m,rfl,rfl,rfl,h⟩:=open_int Tryz.underlying5 (D 2 5 v2 rfl rfl) h2;have hm:=u8_of h;obtain ⟨k,rfl⟩:∃ k:Nat,m=(k:Int):=⟨m.toNat,by omega⟩
 refine (oT A A2 c c2 s x k (by omega) W hv I (rE K hL)).mono fun e W' ⟨he,hb⟩=>?_;subst he;exact ⟨_,rfl,oU N rfl rfl rfl rfl rfl (by rw [Tryz.params5];intro t J;have J:t=22∨t=5:=(by simpa using J);rcases J with rfl | rfl <;> exact ⟨by kernel_rfl,of_decide_eq_true (by kernel_rfl)⟩) hb⟩
theorem laid_met (os:Os):laidMet Tryz.prog Rows.moduleTwinsRow.laid ((fi os).forCall (fun _ _=>0) ⟨#[],#[.slice none 0 0,.slice none 0 0,.int .u8 0],[]⟩).memory:=
 laidMet_of_run' 8 (by kernel_rfl) (by kernel_rfl)
theorem reads (os:Os) {H:Type} (enc:TypeId × Value→H):∃ places,DataW.whole enc Tryz.prog ((fi os).forCall (fun _ _=>0) ⟨#[],#[.slice none 0 0,.slice none 0 0,.int .u8 0],[]⟩).memory Tryz.f5.params.toList Rows.moduleTwinsSpec.vars false (#[.slice none 0 0,.slice none 0 0,.int .u8 0]:Array Value).toList 8=some ([.nil,.nil,.lit (.int .u8 0)],[],places):=
 ⟨[],by kernel_rfl⟩
theorem lifted (os:Os) (started:os.Started) (H:Type) (enc:TypeId × Value→H) (F:Stop.Interp) :
  ReturnsInHanded {} Tryz.checked os 5 .any ((OpenSpec.ofChange Rows.moduleTwinsSpec).preRow enc Tryz.prog Tryz.f5 Rows.moduleTwinsRow.domain false Rows.moduleTwinsRow.laid) (((OpenSpec.ofChange Rows.moduleTwinsSpec).at F).post enc Tryz.prog Tryz.f5 false true false false):=by
 obtain ⟨places,D⟩:=reads os enc;refine returnsInHanded_of_row (C:=Tryz.checked) (s:=OpenSpec.ofChange Rows.moduleTwinsSpec) own started (by kernel_rfl) Tryz.func5
  (witness_row_at (enc:=enc) (C:=Tryz.checked) false (fi os) #[.slice none 0 0,.slice none 0 0,.int .u8 0] rfl (by kernel_rfl) (by kernel_rfl) (by kernel_rfl)
   (OpenSpec.preRow_of_cond 8 D (by kernel_rfl) (fun k I=>by cases I) (by kernel_rfl) (laid_met os))) ?_
 intro W base args ds gs before hval hW _ _ _ hL hsh _;exact contract H enc W base args ds gs before hval hW hL hsh
theorem facts:joinedFacts Tryz.pinned.checked.prog 5 Tryz.f5 (OpenSpec.ofChange Rows.moduleTwinsSpec).bare Rows.moduleTwinsRow=true:=by unfold joinedFacts;(repeat' (with_reducible refine Bool.and_eq_true_iff.2 ⟨?_,?_⟩));all_goals as_aux_lemma=>kernel_rfl
theorem said:Rows.ModuleTwinsSaid:=
 OpenClaim.holds_of_cond 5 Tryz.f5 rfl rfl rfl rfl rfl rfl rfl ⟨rfl,rfl,rfl,rfl,rfl⟩ rfl rfl rfl rfl rfl (by kernel_rfl) Tryz.func5 facts
  (of_decide_eq_true (by kernel_rfl)) (by unfold Func.isWrapper;first | (rw [if_pos (by decide +kernel)];kernel_rfl) | (rw [if_neg (by decide +kernel)];exact ⟨rfl,rfl⟩))
  (fun os started H enc _ F=>by rw [OpenClaim.pre_eq_preRow];exact lifted os started H enc F)
theorem plain (f:FuncId) (fn:Func) (J:Tryz.pinned.checked.prog.funcNamed "demotic/demoticlaw14.ModuleTwins" = some f) (I:Tryz.pinned.checked.prog.funcs[f]? = some fn) :
  true=Tryz.pinned.checked.prog.looks []∧∀ (j:Nat) t,fn.params[j]? = some t→Tryz.pinned.checked.prog.wantsStandIn t=false:=by
 obtain rfl:f=5:=Option.some.inj ((show Tryz.prog.funcNamed "demotic/demoticlaw14.ModuleTwins" = some 5 by kernel_rfl).symm.trans J) |>.symm;obtain rfl:fn=Tryz.f5:=(Option.some.inj (Tryz.func5.symm.trans I)).symm;refine ⟨by kernel_rfl,fun j t D=>?_⟩;rw [Tryz.params5] at D;(have D:t=22∨t=5:=by simpa using Array.mem_of_getElem? D);rcases D with rfl | rfl
 ·exact (show Tryz.prog.wantsStandIn 22=false by kernel_rfl)
 ·exact (show Tryz.prog.wantsStandIn 5=false by kernel_rfl)
theorem card:Rows.ModuleTwinsCardSaid:=
 Claim7.holds_tied_plain_at .later [] _ _ _ _ said (fun _ h=>by cases h) (by kernel_rfl) (fun _ h=>by cases h) moduleTwins_row_tie rfl ⟨rfl,rfl⟩ (by kernel_rfl) rfl plain (by kernel_rfl)
end
end Go.Proofs.YtmmjgmcfdnkomaaGreatDoor.lawleTwins
