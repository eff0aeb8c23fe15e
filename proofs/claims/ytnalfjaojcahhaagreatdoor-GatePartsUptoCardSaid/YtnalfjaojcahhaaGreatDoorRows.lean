/-
  NARROWER THAN 'FOR EVERY INPUT', by the rows' own cells (each row's printed sentence says how): GateParts: loops, laid · GateOld: loops, laid · GateUses: loops, laid · GateBounds: loops, laid · GateMore: loops, laid.
  DERIVED. THE GIVEN ROWS OF THIS SEAT. 5 by the template 'for every input the law returns true; each argument reads behind the call as it read before'; 0 by the template 'total and deterministic' (their statements: YtnalfjaojcahhaaGreatDoorTotals.lean).
  GIVEN WITH THE SEED: the statements are not yours to turn. If you find one false, say at which input.
  Laid BY PROGRAM, IN A SANDBOX (cutbox-rows.mjs): the forced cells as the released guide's own fill.sh prints them over the translation f2532c6ccd6d9a97… (all of the seat's roots in one cut). By AI agents, Wed Nov 11 2026. No macro, syntax, notation, axiom, sorry.
-/
import Derived.Test.YtnalfjaojcahhaaGreatDoorChecked
import GoSem.PinnedTables
import GoSem.Claim
import GoSem.ClaimJoined
import GoSem.ClaimMapViews
import Derived.JoinedTies
import Derived.KernelRfl
namespace Go.Proofs.YtnalfjaojcahhaaGreatDoor
/- THE CELL 'sum', in the pinned program and in every row, IS THE sha256 OF THE DUMP (.gsa) THAT YtnalfjaojcahhaaGreatDoorProg.lean LOADS. Nothing in Lean hashes anything: it is a label: what it is worth is what the hold of that sum in a sandbox is worth. -/
noncomputable def Tryz.pinned : Pinned := { name := "ytnalfjaojcahhaagreatdoor", sum := "f2532c6ccd6d9a97f4843e20fc3bda953720ebe927791d0d16ceed1725ff6a68", checked := Tryz.checked }
namespace Rows
def none {H : Type} : Left H := { results := [], args := [] }

/- WHAT THE LISTED PACKAGE-LEVEL VARIABLES READ AS WHEN THE CALL BEGINS. Each datum BY PROGRAM (the guide's laid-datum.mjs) off the statement by which the dump's own 'gosem.cut.vars' lays the variable. In a bare row this is a premise. The card (YtnalfjaojcahhaaGreatDoorCards.lean) ties it to the program's text. -/
def laid_unicode_utf8_acceptRanges {H : Type} : DataW H := .agg [.agg [.lit (.int .u8 128), .lit (.int .u8 191)], .agg [.lit (.int .u8 160), .lit (.int .u8 191)], .agg [.lit (.int .u8 128), .lit (.int .u8 159)], .agg [.lit (.int .u8 144), .lit (.int .u8 191)], .agg [.lit (.int .u8 128), .lit (.int .u8 143)], .agg [.lit (.int .u8 0), .lit (.int .u8 0)], .agg [.lit (.int .u8 0), .lit (.int .u8 0)], .agg [.lit (.int .u8 0), .lit (.int .u8 0)], .agg [.lit (.int .u8 0), .lit (.int .u8 0)], .agg [.lit (.int .u8 0), .lit (.int .u8 0)], .agg [.lit (.int .u8 0), .lit (.int .u8 0)], .agg [.lit (.int .u8 0), .lit (.int .u8 0)], .agg [.lit (.int .u8 0), .lit (.int .u8 0)], .agg [.lit (.int .u8 0), .lit (.int .u8 0)], .agg [.lit (.int .u8 0), .lit (.int .u8 0)], .agg [.lit (.int .u8 0), .lit (.int .u8 0)]]
/-- One of Go's own tables, pinned by name: the form's constant. -/
def laid_unicode_utf8_first : DataW Unit := Go.Pinned.utf8First

/-- 'demoticlaw13.GateParts': WHATEVER THE INPUT: true; the input reads as it did. -/
def gatePartsSpec : ChangeSpec := { name := "gateParts", fn := fun _ => fun
  | [d] => { results := [.lit (.bool true)], args := [d] }
  | _ => none }
def gatePartsRow : OpenClaim := { program := "ytnalfjaojcahhaagreatdoor", sum := "f2532c6ccd6d9a97f4843e20fc3bda953720ebe927791d0d16ceed1725ff6a68", func := "demotic/demoticlaw13.GateParts", spec := "gateParts", inPlace := ["internal/bytealg.IndexByteString", "internal/bytealg.IndexString", "internal/abi.NoEscape", "internal/bytealg.CountString", "internal/bytealg.MakeNoZero"], unfollowed := true, recurses := true, named := ["unicode/utf8.first", "unicode/utf8.acceptRanges", "internal/bytealg.MaxLen"], loops := true, apart := false, laid := [("unicode/utf8.acceptRanges", laid_unicode_utf8_acceptRanges), ("unicode/utf8.first", laid_unicode_utf8_first)] }
def GatePartsSaid : Prop := gatePartsRow.holds Tryz.pinned (OpenSpec.ofChange gatePartsSpec)

/-- ITS FALSE NEIGHBOUR: 'it returns false'. Refute it at one input. -/
def gatePartsWrong : ChangeSpec := { name := "gateParts", fn := fun _ => fun
  | [d] => { results := [.lit (.bool false)], args := [d] }
  | _ => none }
def GatePartsWrongFalsely : Prop := gatePartsRow.holds Tryz.pinned (OpenSpec.ofChange gatePartsWrong)

/-- 'demoticlaw13.GateOld': WHATEVER THE INPUT: true; the input reads as it did. -/
def gateOldSpec : ChangeSpec := { name := "gateOld", fn := fun _ => fun
  | [d] => { results := [.lit (.bool true)], args := [d] }
  | _ => none }
def gateOldRow : OpenClaim := { program := "ytnalfjaojcahhaagreatdoor", sum := "f2532c6ccd6d9a97f4843e20fc3bda953720ebe927791d0d16ceed1725ff6a68", func := "demotic/demoticlaw13.GateOld", spec := "gateOld", inPlace := ["internal/bytealg.IndexByteString", "internal/bytealg.IndexString", "internal/abi.NoEscape", "internal/bytealg.CountString", "internal/bytealg.MakeNoZero"], unfollowed := true, recurses := true, named := ["unicode/utf8.first", "unicode/utf8.acceptRanges", "internal/bytealg.MaxLen"], loops := true, apart := false, laid := [("unicode/utf8.acceptRanges", laid_unicode_utf8_acceptRanges), ("unicode/utf8.first", laid_unicode_utf8_first)] }
def GateOldSaid : Prop := gateOldRow.holds Tryz.pinned (OpenSpec.ofChange gateOldSpec)

/-- ITS FALSE NEIGHBOUR: 'it returns false'. Refute it at one input. -/
def gateOldWrong : ChangeSpec := { name := "gateOld", fn := fun _ => fun
  | [d] => { results := [.lit (.bool false)], args := [d] }
  | _ => none }
def GateOldWrongFalsely : Prop := gateOldRow.holds Tryz.pinned (OpenSpec.ofChange gateOldWrong)

/-- 'demoticlaw13.GateUses': WHATEVER THE INPUT: true; the input reads as it did. -/
def gateUsesSpec : ChangeSpec := { name := "gateUses", fn := fun _ => fun
  | [d1, d2] => { results := [.lit (.bool true)], args := [d1, d2] }
  | _ => none }
def gateUsesRow : OpenClaim := { program := "ytnalfjaojcahhaagreatdoor", sum := "f2532c6ccd6d9a97f4843e20fc3bda953720ebe927791d0d16ceed1725ff6a68", func := "demotic/demoticlaw13.GateUses", spec := "gateUses", inPlace := ["internal/bytealg.IndexByteString", "internal/bytealg.IndexString", "internal/abi.NoEscape", "internal/bytealg.CountString", "internal/bytealg.MakeNoZero"], unfollowed := true, recurses := true, named := ["internal/bytealg.MaxLen", "unicode/utf8.first", "unicode/utf8.acceptRanges"], loops := true, apart := false, laid := [("unicode/utf8.acceptRanges", laid_unicode_utf8_acceptRanges), ("unicode/utf8.first", laid_unicode_utf8_first)] }
def GateUsesSaid : Prop := gateUsesRow.holds Tryz.pinned (OpenSpec.ofChange gateUsesSpec)

/-- ITS FALSE NEIGHBOUR: 'it returns false'. Refute it at one input. -/
def gateUsesWrong : ChangeSpec := { name := "gateUses", fn := fun _ => fun
  | [d1, d2] => { results := [.lit (.bool false)], args := [d1, d2] }
  | _ => none }
def GateUsesWrongFalsely : Prop := gateUsesRow.holds Tryz.pinned (OpenSpec.ofChange gateUsesWrong)

/-- 'demoticlaw13.GateBounds': WHATEVER THE INPUT: true; the input reads as it did. -/
def gateBoundsSpec : ChangeSpec := { name := "gateBounds", fn := fun _ => fun
  | [d] => { results := [.lit (.bool true)], args := [d] }
  | _ => none }
def gateBoundsRow : OpenClaim := { program := "ytnalfjaojcahhaagreatdoor", sum := "f2532c6ccd6d9a97f4843e20fc3bda953720ebe927791d0d16ceed1725ff6a68", func := "demotic/demoticlaw13.GateBounds", spec := "gateBounds", inPlace := ["internal/bytealg.IndexByteString", "internal/bytealg.IndexString", "internal/abi.NoEscape", "internal/bytealg.CountString", "internal/bytealg.MakeNoZero"], unfollowed := true, recurses := true, named := ["internal/bytealg.MaxLen", "unicode/utf8.first", "unicode/utf8.acceptRanges"], loops := true, apart := false, laid := [("unicode/utf8.acceptRanges", laid_unicode_utf8_acceptRanges), ("unicode/utf8.first", laid_unicode_utf8_first)] }
def GateBoundsSaid : Prop := gateBoundsRow.holds Tryz.pinned (OpenSpec.ofChange gateBoundsSpec)

/-- ITS FALSE NEIGHBOUR: 'it returns false'. Refute it at one input. -/
def gateBoundsWrong : ChangeSpec := { name := "gateBounds", fn := fun _ => fun
  | [d] => { results := [.lit (.bool false)], args := [d] }
  | _ => none }
def GateBoundsWrongFalsely : Prop := gateBoundsRow.holds Tryz.pinned (OpenSpec.ofChange gateBoundsWrong)

/-- 'demoticlaw13.GateMore': WHATEVER THE INPUT: true; the input reads as it did. -/
def gateMoreSpec : ChangeSpec := { name := "gateMore", fn := fun _ => fun
  | [d1, d2, d3] => { results := [.lit (.bool true)], args := [d1, d2, d3] }
  | _ => none }
def gateMoreRow : OpenClaim := { program := "ytnalfjaojcahhaagreatdoor", sum := "f2532c6ccd6d9a97f4843e20fc3bda953720ebe927791d0d16ceed1725ff6a68", func := "demotic/demoticlaw13.GateMore", spec := "gateMore", inPlace := ["internal/bytealg.IndexByteString", "internal/bytealg.IndexString", "internal/abi.NoEscape", "internal/bytealg.CountString", "internal/bytealg.MakeNoZero"], unfollowed := true, recurses := true, named := ["internal/bytealg.MaxLen", "unicode/utf8.first", "unicode/utf8.acceptRanges"], loops := true, apart := false, laid := [("unicode/utf8.acceptRanges", laid_unicode_utf8_acceptRanges), ("unicode/utf8.first", laid_unicode_utf8_first)] }
def GateMoreSaid : Prop := gateMoreRow.holds Tryz.pinned (OpenSpec.ofChange gateMoreSpec)

/-- ITS FALSE NEIGHBOUR: 'it returns false'. Refute it at one input. -/
def gateMoreWrong : ChangeSpec := { name := "gateMore", fn := fun _ => fun
  | [d1, d2, d3] => { results := [.lit (.bool false)], args := [d1, d2, d3] }
  | _ => none }
def GateMoreWrongFalsely : Prop := gateMoreRow.holds Tryz.pinned (OpenSpec.ofChange gateMoreWrong)

/- THE SECOND FORM. 'bulk': how many values and letters a reading holds, each counted each time it is reached (what is shared counts as often as it is met; a slice's spare places count too). A statement '..UptoSaid' is the law's where the arguments, and the package variables that the reading takes, are together of bulk at most 1048576: NARROWER than '..Said'. Prove '..Said' where nothing that the law and all that it calls make is longer than what came in: it says more and counts as full. Else prove '..UptoSaid'. A law counts once. -/
mutual
def uptoBulk {H : Type} : DataW H → Nat
  | .lit (.string bytes) => bytes.length + 1
  | .lit _ => 1
  | .nil => 1
  | .ptr d => uptoBulk d + 1
  | .slice elems spare => uptoBulkAll elems + uptoBulkAll spare + 1
  | .agg parts => uptoBulkAll parts + 1
  | .iface _ d => uptoBulk d + 1
  | .map entries => uptoBulkEntries entries + 1
  | .held _ => 1
def uptoBulkAll {H : Type} : List (DataW H) → Nat
  | [] => 0
  | d :: r => uptoBulk d + uptoBulkAll r
def uptoBulkEntries {H : Type} : List (Lit × DataW H) → Nat
  | [] => 0
  | x :: r => uptoBulkEntry x + uptoBulkEntries r
def uptoBulkEntry {H : Type} : Lit × DataW H → Nat
  | (.string bytes, d) => bytes.length + uptoBulk d + 1
  | (_, d) => uptoBulk d + 1
 end
def uptoSmall : (H : Type) → List (DataW H) → Bool := fun _ ds => decide (uptoBulkAll ds ≤ 1048576)
def OpenSpec.upto (s : _root_.Go.ChangeSpec) : _root_.Go.OpenSpec := { _root_.Go.OpenSpec.ofChange s with cond := some uptoSmall }

/-- 'demoticlaw13.GateParts', WHERE WHAT IT READS IS OF BULK AT MOST 1048576: true; the input reads as it did. -/
def gatePartsUptoRow : OpenClaim := { program := "ytnalfjaojcahhaagreatdoor", sum := "f2532c6ccd6d9a97f4843e20fc3bda953720ebe927791d0d16ceed1725ff6a68", func := "demotic/demoticlaw13.GateParts", spec := "gateParts", inPlace := ["internal/bytealg.IndexByteString", "internal/bytealg.IndexString", "internal/abi.NoEscape", "internal/bytealg.CountString", "internal/bytealg.MakeNoZero"], unfollowed := true, recurses := true, named := ["unicode/utf8.first", "unicode/utf8.acceptRanges", "internal/bytealg.MaxLen"], loops := true, apart := false, laid := [("unicode/utf8.acceptRanges", laid_unicode_utf8_acceptRanges), ("unicode/utf8.first", laid_unicode_utf8_first)], narrowed := true }
def GatePartsUptoSaid : Prop := gatePartsUptoRow.holds Tryz.pinned (OpenSpec.upto gatePartsSpec)

/-- 'demoticlaw13.GateOld', WHERE WHAT IT READS IS OF BULK AT MOST 1048576: true; the input reads as it did. -/
def gateOldUptoRow : OpenClaim := { program := "ytnalfjaojcahhaagreatdoor", sum := "f2532c6ccd6d9a97f4843e20fc3bda953720ebe927791d0d16ceed1725ff6a68", func := "demotic/demoticlaw13.GateOld", spec := "gateOld", inPlace := ["internal/bytealg.IndexByteString", "internal/bytealg.IndexString", "internal/abi.NoEscape", "internal/bytealg.CountString", "internal/bytealg.MakeNoZero"], unfollowed := true, recurses := true, named := ["unicode/utf8.first", "unicode/utf8.acceptRanges", "internal/bytealg.MaxLen"], loops := true, apart := false, laid := [("unicode/utf8.acceptRanges", laid_unicode_utf8_acceptRanges), ("unicode/utf8.first", laid_unicode_utf8_first)], narrowed := true }
def GateOldUptoSaid : Prop := gateOldUptoRow.holds Tryz.pinned (OpenSpec.upto gateOldSpec)

/-- 'demoticlaw13.GateUses', WHERE WHAT IT READS IS OF BULK AT MOST 1048576: true; the input reads as it did. -/
def gateUsesUptoRow : OpenClaim := { program := "ytnalfjaojcahhaagreatdoor", sum := "f2532c6ccd6d9a97f4843e20fc3bda953720ebe927791d0d16ceed1725ff6a68", func := "demotic/demoticlaw13.GateUses", spec := "gateUses", inPlace := ["internal/bytealg.IndexByteString", "internal/bytealg.IndexString", "internal/abi.NoEscape", "internal/bytealg.CountString", "internal/bytealg.MakeNoZero"], unfollowed := true, recurses := true, named := ["internal/bytealg.MaxLen", "unicode/utf8.first", "unicode/utf8.acceptRanges"], loops := true, apart := false, laid := [("unicode/utf8.acceptRanges", laid_unicode_utf8_acceptRanges), ("unicode/utf8.first", laid_unicode_utf8_first)], narrowed := true }
def GateUsesUptoSaid : Prop := gateUsesUptoRow.holds Tryz.pinned (OpenSpec.upto gateUsesSpec)

/-- 'demoticlaw13.GateBounds', WHERE WHAT IT READS IS OF BULK AT MOST 1048576: true; the input reads as it did. -/
def gateBoundsUptoRow : OpenClaim := { program := "ytnalfjaojcahhaagreatdoor", sum := "f2532c6ccd6d9a97f4843e20fc3bda953720ebe927791d0d16ceed1725ff6a68", func := "demotic/demoticlaw13.GateBounds", spec := "gateBounds", inPlace := ["internal/bytealg.IndexByteString", "internal/bytealg.IndexString", "internal/abi.NoEscape", "internal/bytealg.CountString", "internal/bytealg.MakeNoZero"], unfollowed := true, recurses := true, named := ["internal/bytealg.MaxLen", "unicode/utf8.first", "unicode/utf8.acceptRanges"], loops := true, apart := false, laid := [("unicode/utf8.acceptRanges", laid_unicode_utf8_acceptRanges), ("unicode/utf8.first", laid_unicode_utf8_first)], narrowed := true }
def GateBoundsUptoSaid : Prop := gateBoundsUptoRow.holds Tryz.pinned (OpenSpec.upto gateBoundsSpec)

/-- 'demoticlaw13.GateMore', WHERE WHAT IT READS IS OF BULK AT MOST 1048576: true; the input reads as it did. -/
def gateMoreUptoRow : OpenClaim := { program := "ytnalfjaojcahhaagreatdoor", sum := "f2532c6ccd6d9a97f4843e20fc3bda953720ebe927791d0d16ceed1725ff6a68", func := "demotic/demoticlaw13.GateMore", spec := "gateMore", inPlace := ["internal/bytealg.IndexByteString", "internal/bytealg.IndexString", "internal/abi.NoEscape", "internal/bytealg.CountString", "internal/bytealg.MakeNoZero"], unfollowed := true, recurses := true, named := ["internal/bytealg.MaxLen", "unicode/utf8.first", "unicode/utf8.acceptRanges"], loops := true, apart := false, laid := [("unicode/utf8.acceptRanges", laid_unicode_utf8_acceptRanges), ("unicode/utf8.first", laid_unicode_utf8_first)], narrowed := true }
def GateMoreUptoSaid : Prop := gateMoreUptoRow.holds Tryz.pinned (OpenSpec.upto gateMoreSpec)

end Rows
end Go.Proofs.YtnalfjaojcahhaaGreatDoor
