/-
  No cell of these rows narrows 'for every input' (looked for: loops, veiled, ifaces, maps, wideKeys, modest, calm, conditions, laid).
  DERIVED. THE GIVEN ROWS OF THIS SEAT. 4 by the template 'for every input the law returns true; each argument reads behind the call as it read before'; 0 by the template 'total and deterministic' (their statements: YtapicoienpbdfaaTotals.lean).
  GIVEN WITH THE SEED: the statements are not yours to turn. If you find one false, say at which input.
  Laid BY PROGRAM, IN A SANDBOX (cutbox-rows.mjs): the forced cells as the released guide's own fill.sh prints them over the translation 3aa2fc3f6fbeebd0… (all of the seat's roots in one cut). By AI agents, Wed Nov 11 2026. No macro, syntax, notation, axiom, sorry.
-/
import Derived.Test.YtapicoienpbdfaaChecked
import GoSem.Claim
import GoSem.ClaimJoined
import GoSem.ClaimMapViews
import Derived.JoinedTies
import Derived.KernelRfl
namespace Go.Proofs.Ytapicoienpbdfaa
/- THE CELL 'sum', in the pinned program and in every row, IS THE sha256 OF THE DUMP (.gsa) THAT YtapicoienpbdfaaProg.lean LOADS. Nothing in Lean hashes anything: it is a label: what it is worth is what the hold of that sum in a sandbox is worth. -/
noncomputable def Try.pinned : Pinned := { name := "ytapicoienpbdfaa", sum := "3aa2fc3f6fbeebd0ef35b5179145267e97cd41c0d8ccf6831e54943e303d8609", checked := Try.checked }
namespace Rows
def none {H : Type} : Left H := { results := [], args := [] }

/-- 'carousellaw16.PlanTells': WHATEVER THE INPUT: true; the input reads as it did. -/
def planTellsSpec : ChangeSpec := { name := "planTells", fn := fun _ => fun
  | [d1, d2, d3] => { results := [.lit (.bool true)], args := [d1, d2, d3] }
  | _ => none }
def planTellsRow : OpenClaim := { program := "ytapicoienpbdfaa", sum := "3aa2fc3f6fbeebd0ef35b5179145267e97cd41c0d8ccf6831e54943e303d8609", func := "carousel/carousellaw16.PlanTells", spec := "planTells", inPlace := ["internal/bytealg.IndexByteString", "internal/abi.NoEscape", "internal/bytealg.MakeNoZero"], apart := false }
def PlanTellsSaid : Prop := planTellsRow.holds Try.pinned (OpenSpec.ofChange planTellsSpec)

/-- ITS FALSE NEIGHBOUR: 'it returns false'. Refute it at one input. -/
def planTellsWrong : ChangeSpec := { name := "planTells", fn := fun _ => fun
  | [d1, d2, d3] => { results := [.lit (.bool false)], args := [d1, d2, d3] }
  | _ => none }
def PlanTellsWrongFalsely : Prop := planTellsRow.holds Try.pinned (OpenSpec.ofChange planTellsWrong)

/-- 'carousellaw09.WatchPlays': WHATEVER THE INPUT: true; the input reads as it did. -/
def watchPlaysSpec : ChangeSpec := { name := "watchPlays", fn := fun _ => fun
  | [d1, d2, d3] => { results := [.lit (.bool true)], args := [d1, d2, d3] }
  | _ => none }
def watchPlaysRow : OpenClaim := { program := "ytapicoienpbdfaa", sum := "3aa2fc3f6fbeebd0ef35b5179145267e97cd41c0d8ccf6831e54943e303d8609", func := "carousel/carousellaw09.WatchPlays", spec := "watchPlays", inPlace := ["internal/abi.NoEscape", "internal/bytealg.MakeNoZero"], apart := false }
def WatchPlaysSaid : Prop := watchPlaysRow.holds Try.pinned (OpenSpec.ofChange watchPlaysSpec)

/-- ITS FALSE NEIGHBOUR: 'it returns false'. Refute it at one input. -/
def watchPlaysWrong : ChangeSpec := { name := "watchPlays", fn := fun _ => fun
  | [d1, d2, d3] => { results := [.lit (.bool false)], args := [d1, d2, d3] }
  | _ => none }
def WatchPlaysWrongFalsely : Prop := watchPlaysRow.holds Try.pinned (OpenSpec.ofChange watchPlaysWrong)

/-- 'carousellaw09.WatchSends': WHATEVER THE INPUT: true; the input reads as it did. -/
def watchSendsSpec : ChangeSpec := { name := "watchSends", fn := fun _ => fun
  | [d1, d2] => { results := [.lit (.bool true)], args := [d1, d2] }
  | _ => none }
def watchSendsRow : OpenClaim := { program := "ytapicoienpbdfaa", sum := "3aa2fc3f6fbeebd0ef35b5179145267e97cd41c0d8ccf6831e54943e303d8609", func := "carousel/carousellaw09.WatchSends", spec := "watchSends", inPlace := ["internal/abi.NoEscape", "internal/bytealg.MakeNoZero"], apart := false }
def WatchSendsSaid : Prop := watchSendsRow.holds Try.pinned (OpenSpec.ofChange watchSendsSpec)

/-- ITS FALSE NEIGHBOUR: 'it returns false'. Refute it at one input. -/
def watchSendsWrong : ChangeSpec := { name := "watchSends", fn := fun _ => fun
  | [d1, d2] => { results := [.lit (.bool false)], args := [d1, d2] }
  | _ => none }
def WatchSendsWrongFalsely : Prop := watchSendsRow.holds Try.pinned (OpenSpec.ofChange watchSendsWrong)

/-- 'carousellaw16.PlanRings': WHATEVER THE INPUT: true; the input reads as it did. -/
def planRingsSpec : ChangeSpec := { name := "planRings", fn := fun _ => fun
  | [d] => { results := [.lit (.bool true)], args := [d] }
  | _ => none }
def planRingsRow : OpenClaim := { program := "ytapicoienpbdfaa", sum := "3aa2fc3f6fbeebd0ef35b5179145267e97cd41c0d8ccf6831e54943e303d8609", func := "carousel/carousellaw16.PlanRings", spec := "planRings", inPlace := ["internal/bytealg.IndexByteString", "internal/abi.NoEscape", "internal/bytealg.MakeNoZero"], apart := false }
def PlanRingsSaid : Prop := planRingsRow.holds Try.pinned (OpenSpec.ofChange planRingsSpec)

/-- ITS FALSE NEIGHBOUR: 'it returns false'. Refute it at one input. -/
def planRingsWrong : ChangeSpec := { name := "planRings", fn := fun _ => fun
  | [d] => { results := [.lit (.bool false)], args := [d] }
  | _ => none }
def PlanRingsWrongFalsely : Prop := planRingsRow.holds Try.pinned (OpenSpec.ofChange planRingsWrong)

/- THE SECOND FORM. 'bulk': how many values and letters a reading holds, each counted each time it is reached (what is shared counts as often as it is met; a slice's spare places count too). A statement '..UptoSaid' is the law's where the arguments, and the package variables that the reading takes, are together of bulk at most 1048576: NARROWER than '..Said'. Prove '..Said' where nothing that the law and all that it calls make is longer than what came in: it says more and counts as full. Else prove '..UptoSaid'. A law counts once. -/
mutual
def uptoBulk {H : Type} : DataW H → Nat
  | .lit (.string bytes) => bytes.length + 1
  | .lit _ => 1
  | .nil => 1
  | .ptr d => uptoBulk d + 1
  | .slice elems spare => uptoBulkAll elems + uptoBulkAll spare + 1
  | .agg parts => uptoBulkAll parts + 1
  | .iface _ d => uptoBulk d + 1
  | .map entries => uptoBulkEntries entries + 1
  | .held _ => 1
def uptoBulkAll {H : Type} : List (DataW H) → Nat
  | [] => 0
  | d :: r => uptoBulk d + uptoBulkAll r
def uptoBulkEntries {H : Type} : List (Lit × DataW H) → Nat
  | [] => 0
  | x :: r => uptoBulkEntry x + uptoBulkEntries r
def uptoBulkEntry {H : Type} : Lit × DataW H → Nat
  | (.string bytes, d) => bytes.length + uptoBulk d + 1
  | (_, d) => uptoBulk d + 1
 end
def uptoSmall : (H : Type) → List (DataW H) → Bool := fun _ ds => decide (uptoBulkAll ds ≤ 1048576)
def OpenSpec.upto (s : _root_.Go.ChangeSpec) : _root_.Go.OpenSpec := { _root_.Go.OpenSpec.ofChange s with cond := some uptoSmall }

/-- 'carousellaw16.PlanTells', WHERE WHAT IT READS IS OF BULK AT MOST 1048576: true; the input reads as it did. -/
def planTellsUptoRow : OpenClaim := { program := "ytapicoienpbdfaa", sum := "3aa2fc3f6fbeebd0ef35b5179145267e97cd41c0d8ccf6831e54943e303d8609", func := "carousel/carousellaw16.PlanTells", spec := "planTells", inPlace := ["internal/bytealg.IndexByteString", "internal/abi.NoEscape", "internal/bytealg.MakeNoZero"], apart := false, narrowed := true }
def PlanTellsUptoSaid : Prop := planTellsUptoRow.holds Try.pinned (OpenSpec.upto planTellsSpec)

/-- 'carousellaw09.WatchPlays', WHERE WHAT IT READS IS OF BULK AT MOST 1048576: true; the input reads as it did. -/
def watchPlaysUptoRow : OpenClaim := { program := "ytapicoienpbdfaa", sum := "3aa2fc3f6fbeebd0ef35b5179145267e97cd41c0d8ccf6831e54943e303d8609", func := "carousel/carousellaw09.WatchPlays", spec := "watchPlays", inPlace := ["internal/abi.NoEscape", "internal/bytealg.MakeNoZero"], apart := false, narrowed := true }
def WatchPlaysUptoSaid : Prop := watchPlaysUptoRow.holds Try.pinned (OpenSpec.upto watchPlaysSpec)

/-- 'carousellaw09.WatchSends', WHERE WHAT IT READS IS OF BULK AT MOST 1048576: true; the input reads as it did. -/
def watchSendsUptoRow : OpenClaim := { program := "ytapicoienpbdfaa", sum := "3aa2fc3f6fbeebd0ef35b5179145267e97cd41c0d8ccf6831e54943e303d8609", func := "carousel/carousellaw09.WatchSends", spec := "watchSends", inPlace := ["internal/abi.NoEscape", "internal/bytealg.MakeNoZero"], apart := false, narrowed := true }
def WatchSendsUptoSaid : Prop := watchSendsUptoRow.holds Try.pinned (OpenSpec.upto watchSendsSpec)

/-- 'carousellaw16.PlanRings', WHERE WHAT IT READS IS OF BULK AT MOST 1048576: true; the input reads as it did. -/
def planRingsUptoRow : OpenClaim := { program := "ytapicoienpbdfaa", sum := "3aa2fc3f6fbeebd0ef35b5179145267e97cd41c0d8ccf6831e54943e303d8609", func := "carousel/carousellaw16.PlanRings", spec := "planRings", inPlace := ["internal/bytealg.IndexByteString", "internal/abi.NoEscape", "internal/bytealg.MakeNoZero"], apart := false, narrowed := true }
def PlanRingsUptoSaid : Prop := planRingsUptoRow.holds Try.pinned (OpenSpec.upto planRingsSpec)

end Rows
end Go.Proofs.Ytapicoienpbdfaa
