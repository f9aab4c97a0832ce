/-
  No cell of these rows narrows 'for every input' (looked for: loops, veiled, ifaces, maps, wideKeys, modest, calm, conditions, laid).
  DERIVED. THE GIVEN ROWS OF THIS SEAT. 6 by the template 'for every input the law returns true; each argument reads behind the call as it read before'; 0 by the template 'total and deterministic' (their statements: YtmdaaphjndjakaeTotals.lean).
  GIVEN WITH THE SEED: the statements are not yours to turn. If you find one false, say at which input.
  Laid BY PROGRAM, IN A SANDBOX (cutbox-rows.mjs): the forced cells as the released guide's own fill.sh prints them over the translation 16df7919f512951f… (all of the seat's roots in one cut). By AI agents, Wed Nov 11 2026. No macro, syntax, notation, axiom, sorry.
-/
import Derived.Test.YtmdaaphjndjakaeChecked
import GoSem.Claim
import GoSem.ClaimJoined
import GoSem.ClaimMapViews
import Derived.JoinedTies
import Derived.KernelRfl
namespace Go.Proofs.Ytmdaaphjndjakae
/- THE CELL 'sum', in the pinned program and in every row, IS THE sha256 OF THE DUMP (.gsa) THAT YtmdaaphjndjakaeProg.lean LOADS. Nothing in Lean hashes anything: it is a label: what it is worth is what the hold of that sum in a sandbox is worth. -/
noncomputable def Try.pinned : Pinned := { name := "ytmdaaphjndjakae", sum := "16df7919f512951f03ceecf225902b3e8d0d3d0f5667c33ea7b0da07754896e6", checked := Try.checked }
namespace Rows
def none {H : Type} : Left H := { results := [], args := [] }

/-- 'carousellaw03.TaggedOpens': WHATEVER THE INPUT: true; the input reads as it did. -/
def taggedOpensSpec : ChangeSpec := { name := "taggedOpens", fn := fun _ => fun
  | [d] => { results := [.lit (.bool true)], args := [d] }
  | _ => none }
def taggedOpensRow : OpenClaim := { program := "ytmdaaphjndjakae", sum := "16df7919f512951f03ceecf225902b3e8d0d3d0f5667c33ea7b0da07754896e6", func := "carousel/carousellaw03.TaggedOpens", spec := "taggedOpens", inPlace := ["internal/bytealg.IndexByteString"], apart := false }
def TaggedOpensSaid : Prop := taggedOpensRow.holds Try.pinned (OpenSpec.ofChange taggedOpensSpec)

/-- ITS FALSE NEIGHBOUR: 'it returns false'. Refute it at one input. -/
def taggedOpensWrong : ChangeSpec := { name := "taggedOpens", fn := fun _ => fun
  | [d] => { results := [.lit (.bool false)], args := [d] }
  | _ => none }
def TaggedOpensWrongFalsely : Prop := taggedOpensRow.holds Try.pinned (OpenSpec.ofChange taggedOpensWrong)

/-- 'carousellaw03.TaggedBack': WHATEVER THE INPUT: true; the input reads as it did. -/
def taggedBackSpec : ChangeSpec := { name := "taggedBack", fn := fun _ => fun
  | [d1, d2] => { results := [.lit (.bool true)], args := [d1, d2] }
  | _ => none }
def taggedBackRow : OpenClaim := { program := "ytmdaaphjndjakae", sum := "16df7919f512951f03ceecf225902b3e8d0d3d0f5667c33ea7b0da07754896e6", func := "carousel/carousellaw03.TaggedBack", spec := "taggedBack", inPlace := ["internal/bytealg.IndexByteString"], apart := false }
def TaggedBackSaid : Prop := taggedBackRow.holds Try.pinned (OpenSpec.ofChange taggedBackSpec)

/-- ITS FALSE NEIGHBOUR: 'it returns false'. Refute it at one input. -/
def taggedBackWrong : ChangeSpec := { name := "taggedBack", fn := fun _ => fun
  | [d1, d2] => { results := [.lit (.bool false)], args := [d1, d2] }
  | _ => none }
def TaggedBackWrongFalsely : Prop := taggedBackRow.holds Try.pinned (OpenSpec.ofChange taggedBackWrong)

/-- 'carousellaw12.ReqKinds': WHATEVER THE INPUT: true; the input reads as it did. -/
def reqKindsSpec : ChangeSpec := { name := "reqKinds", fn := fun _ => fun
  | [d1, d2] => { results := [.lit (.bool true)], args := [d1, d2] }
  | _ => none }
def reqKindsRow : OpenClaim := { program := "ytmdaaphjndjakae", sum := "16df7919f512951f03ceecf225902b3e8d0d3d0f5667c33ea7b0da07754896e6", func := "carousel/carousellaw12.ReqKinds", spec := "reqKinds", inPlace := ["internal/bytealg.IndexByteString"], apart := false }
def ReqKindsSaid : Prop := reqKindsRow.holds Try.pinned (OpenSpec.ofChange reqKindsSpec)

/-- ITS FALSE NEIGHBOUR: 'it returns false'. Refute it at one input. -/
def reqKindsWrong : ChangeSpec := { name := "reqKinds", fn := fun _ => fun
  | [d1, d2] => { results := [.lit (.bool false)], args := [d1, d2] }
  | _ => none }
def ReqKindsWrongFalsely : Prop := reqKindsRow.holds Try.pinned (OpenSpec.ofChange reqKindsWrong)

/-- 'carousellaw22.EventOpens': WHATEVER THE INPUT: true; the input reads as it did. -/
def eventOpensSpec : ChangeSpec := { name := "eventOpens", fn := fun _ => fun
  | [d] => { results := [.lit (.bool true)], args := [d] }
  | _ => none }
def eventOpensRow : OpenClaim := { program := "ytmdaaphjndjakae", sum := "16df7919f512951f03ceecf225902b3e8d0d3d0f5667c33ea7b0da07754896e6", func := "carousel/carousellaw22.EventOpens", spec := "eventOpens", inPlace := ["internal/abi.NoEscape"], unfollowed := true, recurses := true, apart := false }
def EventOpensSaid : Prop := eventOpensRow.holds Try.pinned (OpenSpec.ofChange eventOpensSpec)

/-- ITS FALSE NEIGHBOUR: 'it returns false'. Refute it at one input. -/
def eventOpensWrong : ChangeSpec := { name := "eventOpens", fn := fun _ => fun
  | [d] => { results := [.lit (.bool false)], args := [d] }
  | _ => none }
def EventOpensWrongFalsely : Prop := eventOpensRow.holds Try.pinned (OpenSpec.ofChange eventOpensWrong)

/-- 'carousellaw22.EventBack': WHATEVER THE INPUT: true; the input reads as it did. -/
def eventBackSpec : ChangeSpec := { name := "eventBack", fn := fun _ => fun
  | [d1, d2] => { results := [.lit (.bool true)], args := [d1, d2] }
  | _ => none }
def eventBackRow : OpenClaim := { program := "ytmdaaphjndjakae", sum := "16df7919f512951f03ceecf225902b3e8d0d3d0f5667c33ea7b0da07754896e6", func := "carousel/carousellaw22.EventBack", spec := "eventBack", inPlace := ["internal/abi.NoEscape"], unfollowed := true, recurses := true, apart := false }
def EventBackSaid : Prop := eventBackRow.holds Try.pinned (OpenSpec.ofChange eventBackSpec)

/-- ITS FALSE NEIGHBOUR: 'it returns false'. Refute it at one input. -/
def eventBackWrong : ChangeSpec := { name := "eventBack", fn := fun _ => fun
  | [d1, d2] => { results := [.lit (.bool false)], args := [d1, d2] }
  | _ => none }
def EventBackWrongFalsely : Prop := eventBackRow.holds Try.pinned (OpenSpec.ofChange eventBackWrong)

/-- 'carousellaw22.EventFull': WHATEVER THE INPUT: true; the input reads as it did. -/
def eventFullSpec : ChangeSpec := { name := "eventFull", fn := fun _ => fun
  | [d] => { results := [.lit (.bool true)], args := [d] }
  | _ => none }
def eventFullRow : OpenClaim := { program := "ytmdaaphjndjakae", sum := "16df7919f512951f03ceecf225902b3e8d0d3d0f5667c33ea7b0da07754896e6", func := "carousel/carousellaw22.EventFull", spec := "eventFull", inPlace := ["internal/abi.NoEscape"], unfollowed := true, recurses := true, apart := false }
def EventFullSaid : Prop := eventFullRow.holds Try.pinned (OpenSpec.ofChange eventFullSpec)

/-- ITS FALSE NEIGHBOUR: 'it returns false'. Refute it at one input. -/
def eventFullWrong : ChangeSpec := { name := "eventFull", fn := fun _ => fun
  | [d] => { results := [.lit (.bool false)], args := [d] }
  | _ => none }
def EventFullWrongFalsely : Prop := eventFullRow.holds Try.pinned (OpenSpec.ofChange eventFullWrong)

/- THE SECOND FORM. 'bulk': how many values and letters a reading holds, each counted each time it is reached (what is shared counts as often as it is met; a slice's spare places count too). A statement '..UptoSaid' is the law's where the arguments, and the package variables that the reading takes, are together of bulk at most 1048576: NARROWER than '..Said'. Prove '..Said' where nothing that the law and all that it calls make is longer than what came in: it says more and counts as full. Else prove '..UptoSaid'. A law counts once. -/
mutual
def uptoBulk {H : Type} : DataW H → Nat
  | .lit (.string bytes) => bytes.length + 1
  | .lit _ => 1
  | .nil => 1
  | .ptr d => uptoBulk d + 1
  | .slice elems spare => uptoBulkAll elems + uptoBulkAll spare + 1
  | .agg parts => uptoBulkAll parts + 1
  | .iface _ d => uptoBulk d + 1
  | .map entries => uptoBulkEntries entries + 1
  | .held _ => 1
def uptoBulkAll {H : Type} : List (DataW H) → Nat
  | [] => 0
  | d :: r => uptoBulk d + uptoBulkAll r
def uptoBulkEntries {H : Type} : List (Lit × DataW H) → Nat
  | [] => 0
  | x :: r => uptoBulkEntry x + uptoBulkEntries r
def uptoBulkEntry {H : Type} : Lit × DataW H → Nat
  | (.string bytes, d) => bytes.length + uptoBulk d + 1
  | (_, d) => uptoBulk d + 1
 end
def uptoSmall : (H : Type) → List (DataW H) → Bool := fun _ ds => decide (uptoBulkAll ds ≤ 1048576)
def OpenSpec.upto (s : _root_.Go.ChangeSpec) : _root_.Go.OpenSpec := { _root_.Go.OpenSpec.ofChange s with cond := some uptoSmall }

/-- 'carousellaw03.TaggedOpens', WHERE WHAT IT READS IS OF BULK AT MOST 1048576: true; the input reads as it did. -/
def taggedOpensUptoRow : OpenClaim := { program := "ytmdaaphjndjakae", sum := "16df7919f512951f03ceecf225902b3e8d0d3d0f5667c33ea7b0da07754896e6", func := "carousel/carousellaw03.TaggedOpens", spec := "taggedOpens", inPlace := ["internal/bytealg.IndexByteString"], apart := false, narrowed := true }
def TaggedOpensUptoSaid : Prop := taggedOpensUptoRow.holds Try.pinned (OpenSpec.upto taggedOpensSpec)

/-- 'carousellaw03.TaggedBack', WHERE WHAT IT READS IS OF BULK AT MOST 1048576: true; the input reads as it did. -/
def taggedBackUptoRow : OpenClaim := { program := "ytmdaaphjndjakae", sum := "16df7919f512951f03ceecf225902b3e8d0d3d0f5667c33ea7b0da07754896e6", func := "carousel/carousellaw03.TaggedBack", spec := "taggedBack", inPlace := ["internal/bytealg.IndexByteString"], apart := false, narrowed := true }
def TaggedBackUptoSaid : Prop := taggedBackUptoRow.holds Try.pinned (OpenSpec.upto taggedBackSpec)

/-- 'carousellaw12.ReqKinds', WHERE WHAT IT READS IS OF BULK AT MOST 1048576: true; the input reads as it did. -/
def reqKindsUptoRow : OpenClaim := { program := "ytmdaaphjndjakae", sum := "16df7919f512951f03ceecf225902b3e8d0d3d0f5667c33ea7b0da07754896e6", func := "carousel/carousellaw12.ReqKinds", spec := "reqKinds", inPlace := ["internal/bytealg.IndexByteString"], apart := false, narrowed := true }
def ReqKindsUptoSaid : Prop := reqKindsUptoRow.holds Try.pinned (OpenSpec.upto reqKindsSpec)

/-- 'carousellaw22.EventOpens', WHERE WHAT IT READS IS OF BULK AT MOST 1048576: true; the input reads as it did. -/
def eventOpensUptoRow : OpenClaim := { program := "ytmdaaphjndjakae", sum := "16df7919f512951f03ceecf225902b3e8d0d3d0f5667c33ea7b0da07754896e6", func := "carousel/carousellaw22.EventOpens", spec := "eventOpens", inPlace := ["internal/abi.NoEscape"], unfollowed := true, recurses := true, apart := false, narrowed := true }
def EventOpensUptoSaid : Prop := eventOpensUptoRow.holds Try.pinned (OpenSpec.upto eventOpensSpec)

/-- 'carousellaw22.EventBack', WHERE WHAT IT READS IS OF BULK AT MOST 1048576: true; the input reads as it did. -/
def eventBackUptoRow : OpenClaim := { program := "ytmdaaphjndjakae", sum := "16df7919f512951f03ceecf225902b3e8d0d3d0f5667c33ea7b0da07754896e6", func := "carousel/carousellaw22.EventBack", spec := "eventBack", inPlace := ["internal/abi.NoEscape"], unfollowed := true, recurses := true, apart := false, narrowed := true }
def EventBackUptoSaid : Prop := eventBackUptoRow.holds Try.pinned (OpenSpec.upto eventBackSpec)

/-- 'carousellaw22.EventFull', WHERE WHAT IT READS IS OF BULK AT MOST 1048576: true; the input reads as it did. -/
def eventFullUptoRow : OpenClaim := { program := "ytmdaaphjndjakae", sum := "16df7919f512951f03ceecf225902b3e8d0d3d0f5667c33ea7b0da07754896e6", func := "carousel/carousellaw22.EventFull", spec := "eventFull", inPlace := ["internal/abi.NoEscape"], unfollowed := true, recurses := true, apart := false, narrowed := true }
def EventFullUptoSaid : Prop := eventFullUptoRow.holds Try.pinned (OpenSpec.upto eventFullSpec)

end Rows
end Go.Proofs.Ytmdaaphjndjakae
