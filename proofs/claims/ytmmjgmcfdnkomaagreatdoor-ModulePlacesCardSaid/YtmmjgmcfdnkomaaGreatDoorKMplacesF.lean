/-
  The statement ModulePlacesCardSaid: whatever the files, the name and the number, ModulePlaces returns true and leaves them as they were.
  Its conditions: the seven listed variables read as the program's text lays them (the card ties them). By an AI agent.
-/
import Derived.Test.YtmmjgmcfdnkomaaGreatDoorL13
import Derived.Test.YtmmjgmcfdnkomaaGreatDoorL07
import Derived.Test.YtmmjgmcfdnkomaaGreatDoorL14
set_option maxRecDepth 100000
set_option maxHeartbeats 8000000
namespace Go.Proofs.YtmmjgmcfdnkomaaGreatDoor.lawlePlaces
section
open Go.ChangeShapes Go.WideShapes Go.ChangeAt Go.RowKit
open Go.ChangeMaps (open_string)
theorem contract (H:Type) (enc:TypeId × Value→H) (W:World) (base:Nat) (args:Array Value) (ds gs:List (DataW H)) (before:List MemPlace)
  (D:∀ (j:Nat) t v,Tryz.f6.params[j]? = some t→args[j]? = some v→Value.okWide Tryz.prog W .any base t v)
  (Q:DataW.Whole enc Tryz.prog Tryz.f6.params.toList Rows.modulePlacesSpec.vars false W args.toList ds gs before) (N:laidMetH Tryz.prog Rows.modulePlacesRow.laid W) (J:W.ShapedOpen Tryz.prog) :
  Calls Tryz.prog 6 args W fun e W'=>∃ v,e=.returned v∧Rows.modulePlacesSpec.post enc Tryz.prog Tryz.f6 false true false false W args v W':=by have hL:laidMet Tryz.prog mP W:=N;have M:=Q;obtain ⟨p,q,O,hV,rfl,ga,z⟩:=Q;have S:DataW.TrodAll enc Tryz.prog W 0 (fun _=>true) true Tryz.f6.params.toList args.toList ds p:=O;rw [Tryz.params6] at S D;obtain ⟨v0,k,d0,ge,p0,q0,K,rfl,rfl,h0,u⟩:=trodAll_cons S;obtain ⟨v1,h,d1,gd,p1,q1,rfl,rfl,rfl,h1,r⟩:=trodAll_cons u;obtain ⟨v2,U,d2,gb,p2,q2,rfl,rfl,rfl,h2,o⟩:=trodAll_cons r;obtain ⟨rfl,rfl,rfl⟩:=trodAll_nil o;(obtain rfl:args = #[v0,v1,v2]:=by cases args;simp_all);obtain ⟨A,n,c,l,rfl,hl,y,x⟩:=mw (D 0 23 v0 rfl rfl) h0;obtain ⟨s,rfl,rfl,rfl,ws⟩:=open_string Tryz.underlying9 (D 1 9 v1 rfl rfl) h1;obtain ⟨m,rfl,rfl,rfl,w1⟩:=open_int Tryz.underlying3 (D 2 3 v2 rfl rfl) h2;refine (oO A n c l s m W hl y x (oT J hL)).mono fun e W' ⟨he,hb⟩=>?_;subst he;exact ⟨_,rfl,mx M rfl rfl rfl rfl rfl (by rw [Tryz.params6];intro t I;have I:t=23∨t=9∨t=3:=(by simpa using I);rcases I with rfl | rfl | rfl <;> exact ⟨by kernel_rfl,of_decide_eq_true (by kernel_rfl)⟩) hb⟩
theorem laid_met (os:Os):laidMet Tryz.prog Rows.modulePlacesRow.laid ((cR os).forCall (fun _ _=>0) ⟨#[],#[.slice none 0 0,.string ⟨#[]⟩,.int .i64 0],[]⟩).memory:=
 laidMet_of_run' 8 (by kernel_rfl) (by kernel_rfl)
theorem reads (os:Os) {H:Type} (enc:TypeId × Value→H):∃ places,DataW.whole enc Tryz.prog ((cR os).forCall (fun _ _=>0) ⟨#[],#[.slice none 0 0,.string ⟨#[]⟩,.int .i64 0],[]⟩).memory Tryz.f6.params.toList Rows.modulePlacesSpec.vars false (#[.slice none 0 0,.string ⟨#[]⟩,.int .i64 0]:Array Value).toList 8=some ([.nil,.lit (.string []),.lit (.int .i64 0)],[],places):=
 ⟨[],by kernel_rfl⟩
theorem lifted (os:Os) (started:os.Started) (H:Type) (enc:TypeId × Value→H) (F:Stop.Interp) :
  ReturnsInHanded {} Tryz.checked os 6 .any ((OpenSpec.ofChange Rows.modulePlacesSpec).preRow enc Tryz.prog Tryz.f6 Rows.modulePlacesRow.domain false Rows.modulePlacesRow.laid) (((OpenSpec.ofChange Rows.modulePlacesSpec).at F).post enc Tryz.prog Tryz.f6 false true false false):=by
 obtain ⟨places,D⟩:=reads os enc;refine returnsInHanded_of_row (C:=Tryz.checked) (s:=OpenSpec.ofChange Rows.modulePlacesSpec) own started (by kernel_rfl) Tryz.func6
  (witness_row_at (enc:=enc) (C:=Tryz.checked) false (cR os) #[.slice none 0 0,.string ⟨#[]⟩,.int .i64 0] rfl (by kernel_rfl) (by kernel_rfl) (by kernel_rfl)
   (OpenSpec.preRow_of_cond 8 D (by kernel_rfl) (fun k I=>by cases I) (by kernel_rfl) (laid_met os))) ?_
 intro W base args ds gs before hval hW _ _ _ hL hsh _;exact contract H enc W base args ds gs before hval hW hL hsh
theorem facts:joinedFacts Tryz.pinned.checked.prog 6 Tryz.f6 (OpenSpec.ofChange Rows.modulePlacesSpec).bare Rows.modulePlacesRow=true:=by unfold joinedFacts;(repeat' (with_reducible refine Bool.and_eq_true_iff.2 ⟨?_,?_⟩));all_goals as_aux_lemma=>kernel_rfl
theorem said:Rows.ModulePlacesSaid:=
 OpenClaim.holds_of_cond 6 Tryz.f6 rfl rfl rfl rfl rfl rfl rfl ⟨rfl,rfl,rfl,rfl,rfl⟩ rfl rfl rfl rfl rfl (by kernel_rfl) Tryz.func6 facts
  (of_decide_eq_true (by kernel_rfl)) (by unfold Func.isWrapper;first | (rw [if_pos (by decide +kernel)];kernel_rfl) | (rw [if_neg (by decide +kernel)];exact ⟨rfl,rfl⟩))
  (fun os started H enc _ F=>by rw [OpenClaim.pre_eq_preRow];exact lifted os started H enc F)
theorem plain (f:FuncId) (fn:Func) (J:Tryz.pinned.checked.prog.funcNamed "demotic/demoticlaw14.ModulePlaces" = some f) (I:Tryz.pinned.checked.prog.funcs[f]? = some fn) :
  true=Tryz.pinned.checked.prog.looks []∧∀ (j:Nat) t,fn.params[j]? = some t→Tryz.pinned.checked.prog.wantsStandIn t=false:=by
 obtain rfl:f=6:=Option.some.inj ((show Tryz.prog.funcNamed "demotic/demoticlaw14.ModulePlaces" = some 6 by kernel_rfl).symm.trans J) |>.symm;obtain rfl:fn=Tryz.f6:=(Option.some.inj (Tryz.func6.symm.trans I)).symm;refine ⟨by kernel_rfl,fun j t D=>?_⟩;rw [Tryz.params6] at D;(have D:t=23∨t=9∨t=3:=by simpa using Array.mem_of_getElem? D);rcases D with rfl | rfl | rfl
 ·exact (show Tryz.prog.wantsStandIn 23=false by kernel_rfl)
 ·exact (show Tryz.prog.wantsStandIn 9=false by kernel_rfl)
 ·exact (show Tryz.prog.wantsStandIn 3=false by kernel_rfl)
theorem card:Rows.ModulePlacesCardSaid:=
 Claim7.holds_tied_plain_at .later [] _ _ _ _ said (fun _ h=>by cases h) (by kernel_rfl) (fun _ h=>by cases h) modulePlaces_row_tie rfl ⟨rfl,rfl⟩ (by kernel_rfl) rfl plain (by kernel_rfl)
end
end Go.Proofs.YtmmjgmcfdnkomaaGreatDoor.lawlePlaces
