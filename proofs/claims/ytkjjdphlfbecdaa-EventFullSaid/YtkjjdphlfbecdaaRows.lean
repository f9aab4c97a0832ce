/-
  No cell of these rows narrows 'for every input' (looked for: loops, veiled, ifaces, maps, wideKeys, modest, calm, conditions, laid).
  DERIVED. THE GIVEN ROWS OF THIS SEAT. 4 by the template 'for every input the law returns true; each argument reads behind the call as it read before'; 0 by the template 'total and deterministic' (their statements: YtkjjdphlfbecdaaTotals.lean).
  GIVEN WITH THE SEED: the statements are not yours to turn. If you find one false, say at which input.
  Laid BY PROGRAM, IN A SANDBOX (cutbox-rows.mjs): the forced cells as the released guide's own fill.sh prints them over the translation 27b6e8ded91320f1… (all of the seat's roots in one cut). By AI agents, Wed Nov 11 2026. No macro, syntax, notation, axiom, sorry.
-/
import Derived.Test.YtkjjdphlfbecdaaChecked
import GoSem.Claim
import GoSem.ClaimJoined
import GoSem.ClaimMapViews
import Derived.JoinedTies
import Derived.KernelRfl
namespace Go.Proofs.Ytkjjdphlfbecdaa
/- THE CELL 'sum', in the pinned program and in every row, IS THE sha256 OF THE DUMP (.gsa) THAT YtkjjdphlfbecdaaProg.lean LOADS. Nothing in Lean hashes anything: it is a label: what it is worth is what the hold of that sum in a sandbox is worth. -/
noncomputable def Try.pinned : Pinned := { name := "ytkjjdphlfbecdaa", sum := "27b6e8ded91320f1e8bb9b73d013b1d6c036d79737c3330c1f2500b53d3ea236", checked := Try.checked }
namespace Rows
def none {H : Type} : Left H := { results := [], args := [] }

/-- 'carousellaw22.EventCloses': WHATEVER THE INPUT: true; the input reads as it did. -/
def eventClosesSpec : ChangeSpec := { name := "eventCloses", fn := fun _ => fun
  | [d1, d2] => { results := [.lit (.bool true)], args := [d1, d2] }
  | _ => none }
def eventClosesRow : OpenClaim := { program := "ytkjjdphlfbecdaa", sum := "27b6e8ded91320f1e8bb9b73d013b1d6c036d79737c3330c1f2500b53d3ea236", func := "carousel/carousellaw22.EventCloses", spec := "eventCloses", inPlace := ["internal/abi.NoEscape"], apart := false }
def EventClosesSaid : Prop := eventClosesRow.holds Try.pinned (OpenSpec.ofChange eventClosesSpec)

/-- ITS FALSE NEIGHBOUR: 'it returns false'. Refute it at one input. -/
def eventClosesWrong : ChangeSpec := { name := "eventCloses", fn := fun _ => fun
  | [d1, d2] => { results := [.lit (.bool false)], args := [d1, d2] }
  | _ => none }
def EventClosesWrongFalsely : Prop := eventClosesRow.holds Try.pinned (OpenSpec.ofChange eventClosesWrong)

/-- 'carousellaw22.EventOpens': WHATEVER THE INPUT: true; the input reads as it did. -/
def eventOpensSpec : ChangeSpec := { name := "eventOpens", fn := fun _ => fun
  | [d] => { results := [.lit (.bool true)], args := [d] }
  | _ => none }
def eventOpensRow : OpenClaim := { program := "ytkjjdphlfbecdaa", sum := "27b6e8ded91320f1e8bb9b73d013b1d6c036d79737c3330c1f2500b53d3ea236", func := "carousel/carousellaw22.EventOpens", spec := "eventOpens", inPlace := ["internal/abi.NoEscape"], unfollowed := true, recurses := true, apart := false }
def EventOpensSaid : Prop := eventOpensRow.holds Try.pinned (OpenSpec.ofChange eventOpensSpec)

/-- ITS FALSE NEIGHBOUR: 'it returns false'. Refute it at one input. -/
def eventOpensWrong : ChangeSpec := { name := "eventOpens", fn := fun _ => fun
  | [d] => { results := [.lit (.bool false)], args := [d] }
  | _ => none }
def EventOpensWrongFalsely : Prop := eventOpensRow.holds Try.pinned (OpenSpec.ofChange eventOpensWrong)

/-- 'carousellaw22.EventBack': WHATEVER THE INPUT: true; the input reads as it did. -/
def eventBackSpec : ChangeSpec := { name := "eventBack", fn := fun _ => fun
  | [d1, d2] => { results := [.lit (.bool true)], args := [d1, d2] }
  | _ => none }
def eventBackRow : OpenClaim := { program := "ytkjjdphlfbecdaa", sum := "27b6e8ded91320f1e8bb9b73d013b1d6c036d79737c3330c1f2500b53d3ea236", func := "carousel/carousellaw22.EventBack", spec := "eventBack", inPlace := ["internal/abi.NoEscape"], unfollowed := true, recurses := true, apart := false }
def EventBackSaid : Prop := eventBackRow.holds Try.pinned (OpenSpec.ofChange eventBackSpec)

/-- ITS FALSE NEIGHBOUR: 'it returns false'. Refute it at one input. -/
def eventBackWrong : ChangeSpec := { name := "eventBack", fn := fun _ => fun
  | [d1, d2] => { results := [.lit (.bool false)], args := [d1, d2] }
  | _ => none }
def EventBackWrongFalsely : Prop := eventBackRow.holds Try.pinned (OpenSpec.ofChange eventBackWrong)

/-- 'carousellaw22.EventFull': WHATEVER THE INPUT: true; the input reads as it did. -/
def eventFullSpec : ChangeSpec := { name := "eventFull", fn := fun _ => fun
  | [d] => { results := [.lit (.bool true)], args := [d] }
  | _ => none }
def eventFullRow : OpenClaim := { program := "ytkjjdphlfbecdaa", sum := "27b6e8ded91320f1e8bb9b73d013b1d6c036d79737c3330c1f2500b53d3ea236", func := "carousel/carousellaw22.EventFull", spec := "eventFull", inPlace := ["internal/abi.NoEscape"], unfollowed := true, recurses := true, apart := false }
def EventFullSaid : Prop := eventFullRow.holds Try.pinned (OpenSpec.ofChange eventFullSpec)

/-- ITS FALSE NEIGHBOUR: 'it returns false'. Refute it at one input. -/
def eventFullWrong : ChangeSpec := { name := "eventFull", fn := fun _ => fun
  | [d] => { results := [.lit (.bool false)], args := [d] }
  | _ => none }
def EventFullWrongFalsely : Prop := eventFullRow.holds Try.pinned (OpenSpec.ofChange eventFullWrong)

/- THE SECOND FORM. 'bulk': how many values and letters a reading holds, each counted each time it is reached (what is shared counts as often as it is met; a slice's spare places count too). A statement '..UptoSaid' is the law's where the arguments, and the package variables that the reading takes, are together of bulk at most 1048576: NARROWER than '..Said'. Prove '..Said' where nothing that the law and all that it calls make is longer than what came in: it says more and counts as full. Else prove '..UptoSaid'. A law counts once. -/
mutual
def uptoBulk {H : Type} : DataW H → Nat
  | .lit (.string bytes) => bytes.length + 1
  | .lit _ => 1
  | .nil => 1
  | .ptr d => uptoBulk d + 1
  | .slice elems spare => uptoBulkAll elems + uptoBulkAll spare + 1
  | .agg parts => uptoBulkAll parts + 1
  | .iface _ d => uptoBulk d + 1
  | .map entries => uptoBulkEntries entries + 1
  | .held _ => 1
def uptoBulkAll {H : Type} : List (DataW H) → Nat
  | [] => 0
  | d :: r => uptoBulk d + uptoBulkAll r
def uptoBulkEntries {H : Type} : List (Lit × DataW H) → Nat
  | [] => 0
  | x :: r => uptoBulkEntry x + uptoBulkEntries r
def uptoBulkEntry {H : Type} : Lit × DataW H → Nat
  | (.string bytes, d) => bytes.length + uptoBulk d + 1
  | (_, d) => uptoBulk d + 1
 end
def uptoSmall : (H : Type) → List (DataW H) → Bool := fun _ ds => decide (uptoBulkAll ds ≤ 1048576)
def OpenSpec.upto (s : _root_.Go.ChangeSpec) : _root_.Go.OpenSpec := { _root_.Go.OpenSpec.ofChange s with cond := some uptoSmall }

/-- 'carousellaw22.EventCloses', WHERE WHAT IT READS IS OF BULK AT MOST 1048576: true; the input reads as it did. -/
def eventClosesUptoRow : OpenClaim := { program := "ytkjjdphlfbecdaa", sum := "27b6e8ded91320f1e8bb9b73d013b1d6c036d79737c3330c1f2500b53d3ea236", func := "carousel/carousellaw22.EventCloses", spec := "eventCloses", inPlace := ["internal/abi.NoEscape"], apart := false, narrowed := true }
def EventClosesUptoSaid : Prop := eventClosesUptoRow.holds Try.pinned (OpenSpec.upto eventClosesSpec)

/-- 'carousellaw22.EventOpens', WHERE WHAT IT READS IS OF BULK AT MOST 1048576: true; the input reads as it did. -/
def eventOpensUptoRow : OpenClaim := { program := "ytkjjdphlfbecdaa", sum := "27b6e8ded91320f1e8bb9b73d013b1d6c036d79737c3330c1f2500b53d3ea236", func := "carousel/carousellaw22.EventOpens", spec := "eventOpens", inPlace := ["internal/abi.NoEscape"], unfollowed := true, recurses := true, apart := false, narrowed := true }
def EventOpensUptoSaid : Prop := eventOpensUptoRow.holds Try.pinned (OpenSpec.upto eventOpensSpec)

/-- 'carousellaw22.EventBack', WHERE WHAT IT READS IS OF BULK AT MOST 1048576: true; the input reads as it did. -/
def eventBackUptoRow : OpenClaim := { program := "ytkjjdphlfbecdaa", sum := "27b6e8ded91320f1e8bb9b73d013b1d6c036d79737c3330c1f2500b53d3ea236", func := "carousel/carousellaw22.EventBack", spec := "eventBack", inPlace := ["internal/abi.NoEscape"], unfollowed := true, recurses := true, apart := false, narrowed := true }
def EventBackUptoSaid : Prop := eventBackUptoRow.holds Try.pinned (OpenSpec.upto eventBackSpec)

/-- 'carousellaw22.EventFull', WHERE WHAT IT READS IS OF BULK AT MOST 1048576: true; the input reads as it did. -/
def eventFullUptoRow : OpenClaim := { program := "ytkjjdphlfbecdaa", sum := "27b6e8ded91320f1e8bb9b73d013b1d6c036d79737c3330c1f2500b53d3ea236", func := "carousel/carousellaw22.EventFull", spec := "eventFull", inPlace := ["internal/abi.NoEscape"], unfollowed := true, recurses := true, apart := false, narrowed := true }
def EventFullUptoSaid : Prop := eventFullUptoRow.holds Try.pinned (OpenSpec.upto eventFullSpec)

end Rows
end Go.Proofs.Ytkjjdphlfbecdaa
