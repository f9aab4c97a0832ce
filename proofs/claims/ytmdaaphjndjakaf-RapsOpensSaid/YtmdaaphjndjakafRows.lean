/-
  No cell of these rows narrows 'for every input' (looked for: loops, veiled, ifaces, maps, wideKeys, modest, calm, conditions, laid).
  DERIVED. THE GIVEN ROWS OF THIS SEAT. 6 by the template 'for every input the law returns true; each argument reads behind the call as it read before'; 0 by the template 'total and deterministic' (their statements: YtmdaaphjndjakafTotals.lean).
  GIVEN WITH THE SEED: the statements are not yours to turn. If you find one false, say at which input.
  Laid BY PROGRAM, IN A SANDBOX (cutbox-rows.mjs): the forced cells as the released guide's own fill.sh prints them over the translation fba8a66147c5686a… (all of the seat's roots in one cut). By AI agents, Wed Nov 11 2026. No macro, syntax, notation, axiom, sorry.
-/
import Derived.Test.YtmdaaphjndjakafChecked
import GoSem.Claim
import GoSem.ClaimJoined
import GoSem.ClaimMapViews
import Derived.JoinedTies
import Derived.KernelRfl
namespace Go.Proofs.Ytmdaaphjndjakaf
/- THE CELL 'sum', in the pinned program and in every row, IS THE sha256 OF THE DUMP (.gsa) THAT YtmdaaphjndjakafProg.lean LOADS. Nothing in Lean hashes anything: it is a label: what it is worth is what the hold of that sum in a sandbox is worth. -/
noncomputable def Try.pinned : Pinned := { name := "ytmdaaphjndjakaf", sum := "fba8a66147c5686aaa69478a34f73a64e224771da8f6a59f4126f9b2d3481855", checked := Try.checked }
namespace Rows
def none {H : Type} : Left H := { results := [], args := [] }

/-- 'carousellaw12.ReqTells': WHATEVER THE INPUT: true; the input reads as it did. -/
def reqTellsSpec : ChangeSpec := { name := "reqTells", fn := fun _ => fun
  | [d1, d2] => { results := [.lit (.bool true)], args := [d1, d2] }
  | _ => none }
def reqTellsRow : OpenClaim := { program := "ytmdaaphjndjakaf", sum := "fba8a66147c5686aaa69478a34f73a64e224771da8f6a59f4126f9b2d3481855", func := "carousel/carousellaw12.ReqTells", spec := "reqTells", inPlace := ["internal/bytealg.IndexByteString"], apart := false }
def ReqTellsSaid : Prop := reqTellsRow.holds Try.pinned (OpenSpec.ofChange reqTellsSpec)

/-- ITS FALSE NEIGHBOUR: 'it returns false'. Refute it at one input. -/
def reqTellsWrong : ChangeSpec := { name := "reqTells", fn := fun _ => fun
  | [d1, d2] => { results := [.lit (.bool false)], args := [d1, d2] }
  | _ => none }
def ReqTellsWrongFalsely : Prop := reqTellsRow.holds Try.pinned (OpenSpec.ofChange reqTellsWrong)

/-- 'carousellaw02.MacBack': WHATEVER THE INPUT: true; the input reads as it did. -/
def macBackSpec : ChangeSpec := { name := "macBack", fn := fun _ => fun
  | [d1, d2] => { results := [.lit (.bool true)], args := [d1, d2] }
  | _ => none }
def macBackRow : OpenClaim := { program := "ytmdaaphjndjakaf", sum := "fba8a66147c5686aaa69478a34f73a64e224771da8f6a59f4126f9b2d3481855", func := "carousel/carousellaw02.MacBack", spec := "macBack", inPlace := ["internal/bytealg.IndexByteString", "internal/abi.NoEscape", "internal/bytealg.MakeNoZero"], apart := false }
def MacBackSaid : Prop := macBackRow.holds Try.pinned (OpenSpec.ofChange macBackSpec)

/-- ITS FALSE NEIGHBOUR: 'it returns false'. Refute it at one input. -/
def macBackWrong : ChangeSpec := { name := "macBack", fn := fun _ => fun
  | [d1, d2] => { results := [.lit (.bool false)], args := [d1, d2] }
  | _ => none }
def MacBackWrongFalsely : Prop := macBackRow.holds Try.pinned (OpenSpec.ofChange macBackWrong)

/-- 'carousellaw05.RapsOpens': WHATEVER THE INPUT: true; the input reads as it did. -/
def rapsOpensSpec : ChangeSpec := { name := "rapsOpens", fn := fun _ => fun
  | [d1, d2] => { results := [.lit (.bool true)], args := [d1, d2] }
  | _ => none }
def rapsOpensRow : OpenClaim := { program := "ytmdaaphjndjakaf", sum := "fba8a66147c5686aaa69478a34f73a64e224771da8f6a59f4126f9b2d3481855", func := "carousel/carousellaw05.RapsOpens", spec := "rapsOpens", inPlace := ["internal/bytealg.IndexByteString"], apart := false }
def RapsOpensSaid : Prop := rapsOpensRow.holds Try.pinned (OpenSpec.ofChange rapsOpensSpec)

/-- ITS FALSE NEIGHBOUR: 'it returns false'. Refute it at one input. -/
def rapsOpensWrong : ChangeSpec := { name := "rapsOpens", fn := fun _ => fun
  | [d1, d2] => { results := [.lit (.bool false)], args := [d1, d2] }
  | _ => none }
def RapsOpensWrongFalsely : Prop := rapsOpensRow.holds Try.pinned (OpenSpec.ofChange rapsOpensWrong)

/-- 'carousellaw05.RapsBack': WHATEVER THE INPUT: true; the input reads as it did. -/
def rapsBackSpec : ChangeSpec := { name := "rapsBack", fn := fun _ => fun
  | [d1, d2, d3, d4] => { results := [.lit (.bool true)], args := [d1, d2, d3, d4] }
  | _ => none }
def rapsBackRow : OpenClaim := { program := "ytmdaaphjndjakaf", sum := "fba8a66147c5686aaa69478a34f73a64e224771da8f6a59f4126f9b2d3481855", func := "carousel/carousellaw05.RapsBack", spec := "rapsBack", inPlace := ["internal/bytealg.IndexByteString"], apart := false }
def RapsBackSaid : Prop := rapsBackRow.holds Try.pinned (OpenSpec.ofChange rapsBackSpec)

/-- ITS FALSE NEIGHBOUR: 'it returns false'. Refute it at one input. -/
def rapsBackWrong : ChangeSpec := { name := "rapsBack", fn := fun _ => fun
  | [d1, d2, d3, d4] => { results := [.lit (.bool false)], args := [d1, d2, d3, d4] }
  | _ => none }
def RapsBackWrongFalsely : Prop := rapsBackRow.holds Try.pinned (OpenSpec.ofChange rapsBackWrong)

/-- 'carousellaw06.CcmCloses': WHATEVER THE INPUT: true; the input reads as it did. -/
def ccmClosesSpec : ChangeSpec := { name := "ccmCloses", fn := fun _ => fun
  | [d1, d2, d3] => { results := [.lit (.bool true)], args := [d1, d2, d3] }
  | _ => none }
def ccmClosesRow : OpenClaim := { program := "ytmdaaphjndjakaf", sum := "fba8a66147c5686aaa69478a34f73a64e224771da8f6a59f4126f9b2d3481855", func := "carousel/carousellaw06.CcmCloses", spec := "ccmCloses", inPlace := ["internal/abi.NoEscape", "internal/bytealg.MakeNoZero"], apart := false }
def CcmClosesSaid : Prop := ccmClosesRow.holds Try.pinned (OpenSpec.ofChange ccmClosesSpec)

/-- ITS FALSE NEIGHBOUR: 'it returns false'. Refute it at one input. -/
def ccmClosesWrong : ChangeSpec := { name := "ccmCloses", fn := fun _ => fun
  | [d1, d2, d3] => { results := [.lit (.bool false)], args := [d1, d2, d3] }
  | _ => none }
def CcmClosesWrongFalsely : Prop := ccmClosesRow.holds Try.pinned (OpenSpec.ofChange ccmClosesWrong)

/-- 'carousellaw16.PlanChecks': WHATEVER THE INPUT: true; the input reads as it did. -/
def planChecksSpec : ChangeSpec := { name := "planChecks", fn := fun _ => fun
  | [d] => { results := [.lit (.bool true)], args := [d] }
  | _ => none }
def planChecksRow : OpenClaim := { program := "ytmdaaphjndjakaf", sum := "fba8a66147c5686aaa69478a34f73a64e224771da8f6a59f4126f9b2d3481855", func := "carousel/carousellaw16.PlanChecks", spec := "planChecks", inPlace := ["internal/bytealg.IndexByteString", "internal/abi.NoEscape", "internal/bytealg.MakeNoZero"], apart := false }
def PlanChecksSaid : Prop := planChecksRow.holds Try.pinned (OpenSpec.ofChange planChecksSpec)

/-- ITS FALSE NEIGHBOUR: 'it returns false'. Refute it at one input. -/
def planChecksWrong : ChangeSpec := { name := "planChecks", fn := fun _ => fun
  | [d] => { results := [.lit (.bool false)], args := [d] }
  | _ => none }
def PlanChecksWrongFalsely : Prop := planChecksRow.holds Try.pinned (OpenSpec.ofChange planChecksWrong)

/- THE SECOND FORM. 'bulk': how many values and letters a reading holds, each counted each time it is reached (what is shared counts as often as it is met; a slice's spare places count too). A statement '..UptoSaid' is the law's where the arguments, and the package variables that the reading takes, are together of bulk at most 1048576: NARROWER than '..Said'. Prove '..Said' where nothing that the law and all that it calls make is longer than what came in: it says more and counts as full. Else prove '..UptoSaid'. A law counts once. -/
mutual
def uptoBulk {H : Type} : DataW H → Nat
  | .lit (.string bytes) => bytes.length + 1
  | .lit _ => 1
  | .nil => 1
  | .ptr d => uptoBulk d + 1
  | .slice elems spare => uptoBulkAll elems + uptoBulkAll spare + 1
  | .agg parts => uptoBulkAll parts + 1
  | .iface _ d => uptoBulk d + 1
  | .map entries => uptoBulkEntries entries + 1
  | .held _ => 1
def uptoBulkAll {H : Type} : List (DataW H) → Nat
  | [] => 0
  | d :: r => uptoBulk d + uptoBulkAll r
def uptoBulkEntries {H : Type} : List (Lit × DataW H) → Nat
  | [] => 0
  | x :: r => uptoBulkEntry x + uptoBulkEntries r
def uptoBulkEntry {H : Type} : Lit × DataW H → Nat
  | (.string bytes, d) => bytes.length + uptoBulk d + 1
  | (_, d) => uptoBulk d + 1
 end
def uptoSmall : (H : Type) → List (DataW H) → Bool := fun _ ds => decide (uptoBulkAll ds ≤ 1048576)
def OpenSpec.upto (s : _root_.Go.ChangeSpec) : _root_.Go.OpenSpec := { _root_.Go.OpenSpec.ofChange s with cond := some uptoSmall }

/-- 'carousellaw12.ReqTells', WHERE WHAT IT READS IS OF BULK AT MOST 1048576: true; the input reads as it did. -/
def reqTellsUptoRow : OpenClaim := { program := "ytmdaaphjndjakaf", sum := "fba8a66147c5686aaa69478a34f73a64e224771da8f6a59f4126f9b2d3481855", func := "carousel/carousellaw12.ReqTells", spec := "reqTells", inPlace := ["internal/bytealg.IndexByteString"], apart := false, narrowed := true }
def ReqTellsUptoSaid : Prop := reqTellsUptoRow.holds Try.pinned (OpenSpec.upto reqTellsSpec)

/-- 'carousellaw02.MacBack', WHERE WHAT IT READS IS OF BULK AT MOST 1048576: true; the input reads as it did. -/
def macBackUptoRow : OpenClaim := { program := "ytmdaaphjndjakaf", sum := "fba8a66147c5686aaa69478a34f73a64e224771da8f6a59f4126f9b2d3481855", func := "carousel/carousellaw02.MacBack", spec := "macBack", inPlace := ["internal/bytealg.IndexByteString", "internal/abi.NoEscape", "internal/bytealg.MakeNoZero"], apart := false, narrowed := true }
def MacBackUptoSaid : Prop := macBackUptoRow.holds Try.pinned (OpenSpec.upto macBackSpec)

/-- 'carousellaw05.RapsOpens', WHERE WHAT IT READS IS OF BULK AT MOST 1048576: true; the input reads as it did. -/
def rapsOpensUptoRow : OpenClaim := { program := "ytmdaaphjndjakaf", sum := "fba8a66147c5686aaa69478a34f73a64e224771da8f6a59f4126f9b2d3481855", func := "carousel/carousellaw05.RapsOpens", spec := "rapsOpens", inPlace := ["internal/bytealg.IndexByteString"], apart := false, narrowed := true }
def RapsOpensUptoSaid : Prop := rapsOpensUptoRow.holds Try.pinned (OpenSpec.upto rapsOpensSpec)

/-- 'carousellaw05.RapsBack', WHERE WHAT IT READS IS OF BULK AT MOST 1048576: true; the input reads as it did. -/
def rapsBackUptoRow : OpenClaim := { program := "ytmdaaphjndjakaf", sum := "fba8a66147c5686aaa69478a34f73a64e224771da8f6a59f4126f9b2d3481855", func := "carousel/carousellaw05.RapsBack", spec := "rapsBack", inPlace := ["internal/bytealg.IndexByteString"], apart := false, narrowed := true }
def RapsBackUptoSaid : Prop := rapsBackUptoRow.holds Try.pinned (OpenSpec.upto rapsBackSpec)

/-- 'carousellaw06.CcmCloses', WHERE WHAT IT READS IS OF BULK AT MOST 1048576: true; the input reads as it did. -/
def ccmClosesUptoRow : OpenClaim := { program := "ytmdaaphjndjakaf", sum := "fba8a66147c5686aaa69478a34f73a64e224771da8f6a59f4126f9b2d3481855", func := "carousel/carousellaw06.CcmCloses", spec := "ccmCloses", inPlace := ["internal/abi.NoEscape", "internal/bytealg.MakeNoZero"], apart := false, narrowed := true }
def CcmClosesUptoSaid : Prop := ccmClosesUptoRow.holds Try.pinned (OpenSpec.upto ccmClosesSpec)

/-- 'carousellaw16.PlanChecks', WHERE WHAT IT READS IS OF BULK AT MOST 1048576: true; the input reads as it did. -/
def planChecksUptoRow : OpenClaim := { program := "ytmdaaphjndjakaf", sum := "fba8a66147c5686aaa69478a34f73a64e224771da8f6a59f4126f9b2d3481855", func := "carousel/carousellaw16.PlanChecks", spec := "planChecks", inPlace := ["internal/bytealg.IndexByteString", "internal/abi.NoEscape", "internal/bytealg.MakeNoZero"], apart := false, narrowed := true }
def PlanChecksUptoSaid : Prop := planChecksUptoRow.holds Try.pinned (OpenSpec.upto planChecksSpec)

end Rows
end Go.Proofs.Ytmdaaphjndjakaf
