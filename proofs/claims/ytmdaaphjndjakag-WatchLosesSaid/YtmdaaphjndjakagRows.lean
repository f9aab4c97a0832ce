/-
  No cell of these rows narrows 'for every input' (looked for: loops, veiled, ifaces, maps, wideKeys, modest, calm, conditions, laid).
  DERIVED. THE GIVEN ROWS OF THIS SEAT. 6 by the template 'for every input the law returns true; each argument reads behind the call as it read before'; 0 by the template 'total and deterministic' (their statements: YtmdaaphjndjakagTotals.lean).
  GIVEN WITH THE SEED: the statements are not yours to turn. If you find one false, say at which input.
  Laid BY PROGRAM, IN A SANDBOX (cutbox-rows.mjs): the forced cells as the released guide's own fill.sh prints them over the translation f4206ea07d88861f… (all of the seat's roots in one cut). By AI agents, Wed Nov 11 2026. No macro, syntax, notation, axiom, sorry.
-/
import Derived.Test.YtmdaaphjndjakagChecked
import GoSem.Claim
import GoSem.ClaimJoined
import GoSem.ClaimMapViews
import Derived.JoinedTies
import Derived.KernelRfl
namespace Go.Proofs.Ytmdaaphjndjakag
/- THE CELL 'sum', in the pinned program and in every row, IS THE sha256 OF THE DUMP (.gsa) THAT YtmdaaphjndjakagProg.lean LOADS. Nothing in Lean hashes anything: it is a label: what it is worth is what the hold of that sum in a sandbox is worth. -/
noncomputable def Try.pinned : Pinned := { name := "ytmdaaphjndjakag", sum := "f4206ea07d88861f65199af2dee18fa47460ed3f083af98c30413b4c92c32789", checked := Try.checked }
namespace Rows
def none {H : Type} : Left H := { results := [], args := [] }

/-- 'carousellaw06.CcmOpens': WHATEVER THE INPUT: true; the input reads as it did. -/
def ccmOpensSpec : ChangeSpec := { name := "ccmOpens", fn := fun _ => fun
  | [d1, d2] => { results := [.lit (.bool true)], args := [d1, d2] }
  | _ => none }
def ccmOpensRow : OpenClaim := { program := "ytmdaaphjndjakag", sum := "f4206ea07d88861f65199af2dee18fa47460ed3f083af98c30413b4c92c32789", func := "carousel/carousellaw06.CcmOpens", spec := "ccmOpens", inPlace := ["internal/abi.NoEscape", "internal/bytealg.MakeNoZero"], apart := false }
def CcmOpensSaid : Prop := ccmOpensRow.holds Try.pinned (OpenSpec.ofChange ccmOpensSpec)

/-- ITS FALSE NEIGHBOUR: 'it returns false'. Refute it at one input. -/
def ccmOpensWrong : ChangeSpec := { name := "ccmOpens", fn := fun _ => fun
  | [d1, d2] => { results := [.lit (.bool false)], args := [d1, d2] }
  | _ => none }
def CcmOpensWrongFalsely : Prop := ccmOpensRow.holds Try.pinned (OpenSpec.ofChange ccmOpensWrong)

/-- 'carousellaw06.CcmBack': WHATEVER THE INPUT: true; the input reads as it did. -/
def ccmBackSpec : ChangeSpec := { name := "ccmBack", fn := fun _ => fun
  | [d1, d2, d3] => { results := [.lit (.bool true)], args := [d1, d2, d3] }
  | _ => none }
def ccmBackRow : OpenClaim := { program := "ytmdaaphjndjakag", sum := "f4206ea07d88861f65199af2dee18fa47460ed3f083af98c30413b4c92c32789", func := "carousel/carousellaw06.CcmBack", spec := "ccmBack", inPlace := ["internal/abi.NoEscape", "internal/bytealg.MakeNoZero"], apart := false }
def CcmBackSaid : Prop := ccmBackRow.holds Try.pinned (OpenSpec.ofChange ccmBackSpec)

/-- ITS FALSE NEIGHBOUR: 'it returns false'. Refute it at one input. -/
def ccmBackWrong : ChangeSpec := { name := "ccmBack", fn := fun _ => fun
  | [d1, d2, d3] => { results := [.lit (.bool false)], args := [d1, d2, d3] }
  | _ => none }
def CcmBackWrongFalsely : Prop := ccmBackRow.holds Try.pinned (OpenSpec.ofChange ccmBackWrong)

/-- 'carousellaw16.PlanRings': WHATEVER THE INPUT: true; the input reads as it did. -/
def planRingsSpec : ChangeSpec := { name := "planRings", fn := fun _ => fun
  | [d] => { results := [.lit (.bool true)], args := [d] }
  | _ => none }
def planRingsRow : OpenClaim := { program := "ytmdaaphjndjakag", sum := "f4206ea07d88861f65199af2dee18fa47460ed3f083af98c30413b4c92c32789", func := "carousel/carousellaw16.PlanRings", spec := "planRings", inPlace := ["internal/bytealg.IndexByteString", "internal/abi.NoEscape", "internal/bytealg.MakeNoZero"], apart := false }
def PlanRingsSaid : Prop := planRingsRow.holds Try.pinned (OpenSpec.ofChange planRingsSpec)

/-- ITS FALSE NEIGHBOUR: 'it returns false'. Refute it at one input. -/
def planRingsWrong : ChangeSpec := { name := "planRings", fn := fun _ => fun
  | [d] => { results := [.lit (.bool false)], args := [d] }
  | _ => none }
def PlanRingsWrongFalsely : Prop := planRingsRow.holds Try.pinned (OpenSpec.ofChange planRingsWrong)

/-- 'carousellaw16.PlanTells': WHATEVER THE INPUT: true; the input reads as it did. -/
def planTellsSpec : ChangeSpec := { name := "planTells", fn := fun _ => fun
  | [d1, d2, d3] => { results := [.lit (.bool true)], args := [d1, d2, d3] }
  | _ => none }
def planTellsRow : OpenClaim := { program := "ytmdaaphjndjakag", sum := "f4206ea07d88861f65199af2dee18fa47460ed3f083af98c30413b4c92c32789", func := "carousel/carousellaw16.PlanTells", spec := "planTells", inPlace := ["internal/bytealg.IndexByteString", "internal/abi.NoEscape", "internal/bytealg.MakeNoZero"], apart := false }
def PlanTellsSaid : Prop := planTellsRow.holds Try.pinned (OpenSpec.ofChange planTellsSpec)

/-- ITS FALSE NEIGHBOUR: 'it returns false'. Refute it at one input. -/
def planTellsWrong : ChangeSpec := { name := "planTells", fn := fun _ => fun
  | [d1, d2, d3] => { results := [.lit (.bool false)], args := [d1, d2, d3] }
  | _ => none }
def PlanTellsWrongFalsely : Prop := planTellsRow.holds Try.pinned (OpenSpec.ofChange planTellsWrong)

/-- 'carousellaw09.WatchPlays': WHATEVER THE INPUT: true; the input reads as it did. -/
def watchPlaysSpec : ChangeSpec := { name := "watchPlays", fn := fun _ => fun
  | [d1, d2, d3] => { results := [.lit (.bool true)], args := [d1, d2, d3] }
  | _ => none }
def watchPlaysRow : OpenClaim := { program := "ytmdaaphjndjakag", sum := "f4206ea07d88861f65199af2dee18fa47460ed3f083af98c30413b4c92c32789", func := "carousel/carousellaw09.WatchPlays", spec := "watchPlays", inPlace := ["internal/abi.NoEscape", "internal/bytealg.MakeNoZero"], apart := false }
def WatchPlaysSaid : Prop := watchPlaysRow.holds Try.pinned (OpenSpec.ofChange watchPlaysSpec)

/-- ITS FALSE NEIGHBOUR: 'it returns false'. Refute it at one input. -/
def watchPlaysWrong : ChangeSpec := { name := "watchPlays", fn := fun _ => fun
  | [d1, d2, d3] => { results := [.lit (.bool false)], args := [d1, d2, d3] }
  | _ => none }
def WatchPlaysWrongFalsely : Prop := watchPlaysRow.holds Try.pinned (OpenSpec.ofChange watchPlaysWrong)

/-- 'carousellaw09.WatchLoses': WHATEVER THE INPUT: true; the input reads as it did. -/
def watchLosesSpec : ChangeSpec := { name := "watchLoses", fn := fun _ => fun
  | [d1, d2] => { results := [.lit (.bool true)], args := [d1, d2] }
  | _ => none }
def watchLosesRow : OpenClaim := { program := "ytmdaaphjndjakag", sum := "f4206ea07d88861f65199af2dee18fa47460ed3f083af98c30413b4c92c32789", func := "carousel/carousellaw09.WatchLoses", spec := "watchLoses", inPlace := ["internal/abi.NoEscape", "internal/bytealg.MakeNoZero"], apart := false }
def WatchLosesSaid : Prop := watchLosesRow.holds Try.pinned (OpenSpec.ofChange watchLosesSpec)

/-- ITS FALSE NEIGHBOUR: 'it returns false'. Refute it at one input. -/
def watchLosesWrong : ChangeSpec := { name := "watchLoses", fn := fun _ => fun
  | [d1, d2] => { results := [.lit (.bool false)], args := [d1, d2] }
  | _ => none }
def WatchLosesWrongFalsely : Prop := watchLosesRow.holds Try.pinned (OpenSpec.ofChange watchLosesWrong)

/- THE SECOND FORM. 'bulk': how many values and letters a reading holds, each counted each time it is reached (what is shared counts as often as it is met; a slice's spare places count too). A statement '..UptoSaid' is the law's where the arguments, and the package variables that the reading takes, are together of bulk at most 1048576: NARROWER than '..Said'. Prove '..Said' where nothing that the law and all that it calls make is longer than what came in: it says more and counts as full. Else prove '..UptoSaid'. A law counts once. -/
mutual
def uptoBulk {H : Type} : DataW H → Nat
  | .lit (.string bytes) => bytes.length + 1
  | .lit _ => 1
  | .nil => 1
  | .ptr d => uptoBulk d + 1
  | .slice elems spare => uptoBulkAll elems + uptoBulkAll spare + 1
  | .agg parts => uptoBulkAll parts + 1
  | .iface _ d => uptoBulk d + 1
  | .map entries => uptoBulkEntries entries + 1
  | .held _ => 1
def uptoBulkAll {H : Type} : List (DataW H) → Nat
  | [] => 0
  | d :: r => uptoBulk d + uptoBulkAll r
def uptoBulkEntries {H : Type} : List (Lit × DataW H) → Nat
  | [] => 0
  | x :: r => uptoBulkEntry x + uptoBulkEntries r
def uptoBulkEntry {H : Type} : Lit × DataW H → Nat
  | (.string bytes, d) => bytes.length + uptoBulk d + 1
  | (_, d) => uptoBulk d + 1
 end
def uptoSmall : (H : Type) → List (DataW H) → Bool := fun _ ds => decide (uptoBulkAll ds ≤ 1048576)
def OpenSpec.upto (s : _root_.Go.ChangeSpec) : _root_.Go.OpenSpec := { _root_.Go.OpenSpec.ofChange s with cond := some uptoSmall }

/-- 'carousellaw06.CcmOpens', WHERE WHAT IT READS IS OF BULK AT MOST 1048576: true; the input reads as it did. -/
def ccmOpensUptoRow : OpenClaim := { program := "ytmdaaphjndjakag", sum := "f4206ea07d88861f65199af2dee18fa47460ed3f083af98c30413b4c92c32789", func := "carousel/carousellaw06.CcmOpens", spec := "ccmOpens", inPlace := ["internal/abi.NoEscape", "internal/bytealg.MakeNoZero"], apart := false, narrowed := true }
def CcmOpensUptoSaid : Prop := ccmOpensUptoRow.holds Try.pinned (OpenSpec.upto ccmOpensSpec)

/-- 'carousellaw06.CcmBack', WHERE WHAT IT READS IS OF BULK AT MOST 1048576: true; the input reads as it did. -/
def ccmBackUptoRow : OpenClaim := { program := "ytmdaaphjndjakag", sum := "f4206ea07d88861f65199af2dee18fa47460ed3f083af98c30413b4c92c32789", func := "carousel/carousellaw06.CcmBack", spec := "ccmBack", inPlace := ["internal/abi.NoEscape", "internal/bytealg.MakeNoZero"], apart := false, narrowed := true }
def CcmBackUptoSaid : Prop := ccmBackUptoRow.holds Try.pinned (OpenSpec.upto ccmBackSpec)

/-- 'carousellaw16.PlanRings', WHERE WHAT IT READS IS OF BULK AT MOST 1048576: true; the input reads as it did. -/
def planRingsUptoRow : OpenClaim := { program := "ytmdaaphjndjakag", sum := "f4206ea07d88861f65199af2dee18fa47460ed3f083af98c30413b4c92c32789", func := "carousel/carousellaw16.PlanRings", spec := "planRings", inPlace := ["internal/bytealg.IndexByteString", "internal/abi.NoEscape", "internal/bytealg.MakeNoZero"], apart := false, narrowed := true }
def PlanRingsUptoSaid : Prop := planRingsUptoRow.holds Try.pinned (OpenSpec.upto planRingsSpec)

/-- 'carousellaw16.PlanTells', WHERE WHAT IT READS IS OF BULK AT MOST 1048576: true; the input reads as it did. -/
def planTellsUptoRow : OpenClaim := { program := "ytmdaaphjndjakag", sum := "f4206ea07d88861f65199af2dee18fa47460ed3f083af98c30413b4c92c32789", func := "carousel/carousellaw16.PlanTells", spec := "planTells", inPlace := ["internal/bytealg.IndexByteString", "internal/abi.NoEscape", "internal/bytealg.MakeNoZero"], apart := false, narrowed := true }
def PlanTellsUptoSaid : Prop := planTellsUptoRow.holds Try.pinned (OpenSpec.upto planTellsSpec)

/-- 'carousellaw09.WatchPlays', WHERE WHAT IT READS IS OF BULK AT MOST 1048576: true; the input reads as it did. -/
def watchPlaysUptoRow : OpenClaim := { program := "ytmdaaphjndjakag", sum := "f4206ea07d88861f65199af2dee18fa47460ed3f083af98c30413b4c92c32789", func := "carousel/carousellaw09.WatchPlays", spec := "watchPlays", inPlace := ["internal/abi.NoEscape", "internal/bytealg.MakeNoZero"], apart := false, narrowed := true }
def WatchPlaysUptoSaid : Prop := watchPlaysUptoRow.holds Try.pinned (OpenSpec.upto watchPlaysSpec)

/-- 'carousellaw09.WatchLoses', WHERE WHAT IT READS IS OF BULK AT MOST 1048576: true; the input reads as it did. -/
def watchLosesUptoRow : OpenClaim := { program := "ytmdaaphjndjakag", sum := "f4206ea07d88861f65199af2dee18fa47460ed3f083af98c30413b4c92c32789", func := "carousel/carousellaw09.WatchLoses", spec := "watchLoses", inPlace := ["internal/abi.NoEscape", "internal/bytealg.MakeNoZero"], apart := false, narrowed := true }
def WatchLosesUptoSaid : Prop := watchLosesUptoRow.holds Try.pinned (OpenSpec.upto watchLosesSpec)

end Rows
end Go.Proofs.Ytmdaaphjndjakag
