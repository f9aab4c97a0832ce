/-
  No cell of these rows narrows 'for every input' (looked for: loops, veiled, ifaces, maps, wideKeys, modest, calm, conditions, laid).
  DERIVED. THE GIVEN ROWS OF THIS SEAT. 6 by the template 'for every input the law returns true; each argument reads behind the call as it read before'; 0 by the template 'total and deterministic' (their statements: YtmdaaphjndjakacTotals.lean).
  GIVEN WITH THE SEED: the statements are not yours to turn. If you find one false, say at which input.
  Laid BY PROGRAM, IN A SANDBOX (cutbox-rows.mjs): the forced cells as the released guide's own fill.sh prints them over the translation 08dfc6e5f3966931… (all of the seat's roots in one cut). By AI agents, Wed Nov 11 2026. No macro, syntax, notation, axiom, sorry.
-/
import Derived.Test.YtmdaaphjndjakacChecked
import GoSem.Claim
import GoSem.ClaimJoined
import GoSem.ClaimMapViews
import Derived.JoinedTies
import Derived.KernelRfl
namespace Go.Proofs.Ytmdaaphjndjakac
/- THE CELL 'sum', in the pinned program and in every row, IS THE sha256 OF THE DUMP (.gsa) THAT YtmdaaphjndjakacProg.lean LOADS. Nothing in Lean hashes anything: it is a label: what it is worth is what the hold of that sum in a sandbox is worth. -/
noncomputable def Try.pinned : Pinned := { name := "ytmdaaphjndjakac", sum := "08dfc6e5f39669319e322fe86c4798c07a3aacf8f4640602104ac97d2356a823", checked := Try.checked }
namespace Rows
def none {H : Type} : Left H := { results := [], args := [] }

/-- 'carousellaw01.FieldSplits': WHATEVER THE INPUT: true; the input reads as it did. -/
def fieldSplitsSpec : ChangeSpec := { name := "fieldSplits", fn := fun _ => fun
  | [d1, d2] => { results := [.lit (.bool true)], args := [d1, d2] }
  | _ => none }
def fieldSplitsRow : OpenClaim := { program := "ytmdaaphjndjakac", sum := "08dfc6e5f39669319e322fe86c4798c07a3aacf8f4640602104ac97d2356a823", func := "carousel/carousellaw01.FieldSplits", spec := "fieldSplits", plainKeys := false, apart := false }
def FieldSplitsSaid : Prop := fieldSplitsRow.holds Try.pinned (OpenSpec.ofChange fieldSplitsSpec)

/-- ITS FALSE NEIGHBOUR: 'it returns false'. Refute it at one input. -/
def fieldSplitsWrong : ChangeSpec := { name := "fieldSplits", fn := fun _ => fun
  | [d1, d2] => { results := [.lit (.bool false)], args := [d1, d2] }
  | _ => none }
def FieldSplitsWrongFalsely : Prop := fieldSplitsRow.holds Try.pinned (OpenSpec.ofChange fieldSplitsWrong)

/-- 'carousellaw22.EventCloses': WHATEVER THE INPUT: true; the input reads as it did. -/
def eventClosesSpec : ChangeSpec := { name := "eventCloses", fn := fun _ => fun
  | [d1, d2] => { results := [.lit (.bool true)], args := [d1, d2] }
  | _ => none }
def eventClosesRow : OpenClaim := { program := "ytmdaaphjndjakac", sum := "08dfc6e5f39669319e322fe86c4798c07a3aacf8f4640602104ac97d2356a823", func := "carousel/carousellaw22.EventCloses", spec := "eventCloses", inPlace := ["internal/abi.NoEscape"], plainKeys := false, apart := false }
def EventClosesSaid : Prop := eventClosesRow.holds Try.pinned (OpenSpec.ofChange eventClosesSpec)

/-- ITS FALSE NEIGHBOUR: 'it returns false'. Refute it at one input. -/
def eventClosesWrong : ChangeSpec := { name := "eventCloses", fn := fun _ => fun
  | [d1, d2] => { results := [.lit (.bool false)], args := [d1, d2] }
  | _ => none }
def EventClosesWrongFalsely : Prop := eventClosesRow.holds Try.pinned (OpenSpec.ofChange eventClosesWrong)

/-- 'carousellaw19.RelayNever': WHATEVER THE INPUT: true; the input reads as it did. -/
def relayNeverSpec : ChangeSpec := { name := "relayNever", fn := fun _ => fun
  | [d1, d2] => { results := [.lit (.bool true)], args := [d1, d2] }
  | _ => none }
def relayNeverRow : OpenClaim := { program := "ytmdaaphjndjakac", sum := "08dfc6e5f39669319e322fe86c4798c07a3aacf8f4640602104ac97d2356a823", func := "carousel/carousellaw19.RelayNever", spec := "relayNever", inPlace := ["maps.clone", "internal/bytealg.IndexByteString"], unfollowed := true, recurses := true, plainKeys := false, apart := false }
def RelayNeverSaid : Prop := relayNeverRow.holds Try.pinned (OpenSpec.ofChange relayNeverSpec)

/-- ITS FALSE NEIGHBOUR: 'it returns false'. Refute it at one input. -/
def relayNeverWrong : ChangeSpec := { name := "relayNever", fn := fun _ => fun
  | [d1, d2] => { results := [.lit (.bool false)], args := [d1, d2] }
  | _ => none }
def RelayNeverWrongFalsely : Prop := relayNeverRow.holds Try.pinned (OpenSpec.ofChange relayNeverWrong)

/-- 'carousellaw04.OamCloses': WHATEVER THE INPUT: true; the input reads as it did. -/
def oamClosesSpec : ChangeSpec := { name := "oamCloses", fn := fun _ => fun
  | [d1, d2, d3] => { results := [.lit (.bool true)], args := [d1, d2, d3] }
  | _ => none }
def oamClosesRow : OpenClaim := { program := "ytmdaaphjndjakac", sum := "08dfc6e5f39669319e322fe86c4798c07a3aacf8f4640602104ac97d2356a823", func := "carousel/carousellaw04.OamCloses", spec := "oamCloses", plainKeys := false, apart := false }
def OamClosesSaid : Prop := oamClosesRow.holds Try.pinned (OpenSpec.ofChange oamClosesSpec)

/-- ITS FALSE NEIGHBOUR: 'it returns false'. Refute it at one input. -/
def oamClosesWrong : ChangeSpec := { name := "oamCloses", fn := fun _ => fun
  | [d1, d2, d3] => { results := [.lit (.bool false)], args := [d1, d2, d3] }
  | _ => none }
def OamClosesWrongFalsely : Prop := oamClosesRow.holds Try.pinned (OpenSpec.ofChange oamClosesWrong)

/-- 'carousellaw04.OamOpens': WHATEVER THE INPUT: true; the input reads as it did. -/
def oamOpensSpec : ChangeSpec := { name := "oamOpens", fn := fun _ => fun
  | [d] => { results := [.lit (.bool true)], args := [d] }
  | _ => none }
def oamOpensRow : OpenClaim := { program := "ytmdaaphjndjakac", sum := "08dfc6e5f39669319e322fe86c4798c07a3aacf8f4640602104ac97d2356a823", func := "carousel/carousellaw04.OamOpens", spec := "oamOpens", plainKeys := false, apart := false }
def OamOpensSaid : Prop := oamOpensRow.holds Try.pinned (OpenSpec.ofChange oamOpensSpec)

/-- ITS FALSE NEIGHBOUR: 'it returns false'. Refute it at one input. -/
def oamOpensWrong : ChangeSpec := { name := "oamOpens", fn := fun _ => fun
  | [d] => { results := [.lit (.bool false)], args := [d] }
  | _ => none }
def OamOpensWrongFalsely : Prop := oamOpensRow.holds Try.pinned (OpenSpec.ofChange oamOpensWrong)

/-- 'carousellaw03.TaggedCloses': WHATEVER THE INPUT: true; the input reads as it did. -/
def taggedClosesSpec : ChangeSpec := { name := "taggedCloses", fn := fun _ => fun
  | [d] => { results := [.lit (.bool true)], args := [d] }
  | _ => none }
def taggedClosesRow : OpenClaim := { program := "ytmdaaphjndjakac", sum := "08dfc6e5f39669319e322fe86c4798c07a3aacf8f4640602104ac97d2356a823", func := "carousel/carousellaw03.TaggedCloses", spec := "taggedCloses", inPlace := ["internal/bytealg.IndexByteString"], plainKeys := false, apart := false }
def TaggedClosesSaid : Prop := taggedClosesRow.holds Try.pinned (OpenSpec.ofChange taggedClosesSpec)

/-- ITS FALSE NEIGHBOUR: 'it returns false'. Refute it at one input. -/
def taggedClosesWrong : ChangeSpec := { name := "taggedCloses", fn := fun _ => fun
  | [d] => { results := [.lit (.bool false)], args := [d] }
  | _ => none }
def TaggedClosesWrongFalsely : Prop := taggedClosesRow.holds Try.pinned (OpenSpec.ofChange taggedClosesWrong)

/- THE SECOND FORM. 'bulk': how many values and letters a reading holds, each counted each time it is reached (what is shared counts as often as it is met; a slice's spare places count too). A statement '..UptoSaid' is the law's where the arguments, and the package variables that the reading takes, are together of bulk at most 1048576: NARROWER than '..Said'. Prove '..Said' where nothing that the law and all that it calls make is longer than what came in: it says more and counts as full. Else prove '..UptoSaid'. A law counts once. -/
mutual
def uptoBulk {H : Type} : DataW H → Nat
  | .lit (.string bytes) => bytes.length + 1
  | .lit _ => 1
  | .nil => 1
  | .ptr d => uptoBulk d + 1
  | .slice elems spare => uptoBulkAll elems + uptoBulkAll spare + 1
  | .agg parts => uptoBulkAll parts + 1
  | .iface _ d => uptoBulk d + 1
  | .map entries => uptoBulkEntries entries + 1
  | .held _ => 1
def uptoBulkAll {H : Type} : List (DataW H) → Nat
  | [] => 0
  | d :: r => uptoBulk d + uptoBulkAll r
def uptoBulkEntries {H : Type} : List (Lit × DataW H) → Nat
  | [] => 0
  | x :: r => uptoBulkEntry x + uptoBulkEntries r
def uptoBulkEntry {H : Type} : Lit × DataW H → Nat
  | (.string bytes, d) => bytes.length + uptoBulk d + 1
  | (_, d) => uptoBulk d + 1
 end
def uptoSmall : (H : Type) → List (DataW H) → Bool := fun _ ds => decide (uptoBulkAll ds ≤ 1048576)
def OpenSpec.upto (s : _root_.Go.ChangeSpec) : _root_.Go.OpenSpec := { _root_.Go.OpenSpec.ofChange s with cond := some uptoSmall }

/-- 'carousellaw01.FieldSplits', WHERE WHAT IT READS IS OF BULK AT MOST 1048576: true; the input reads as it did. -/
def fieldSplitsUptoRow : OpenClaim := { program := "ytmdaaphjndjakac", sum := "08dfc6e5f39669319e322fe86c4798c07a3aacf8f4640602104ac97d2356a823", func := "carousel/carousellaw01.FieldSplits", spec := "fieldSplits", plainKeys := false, apart := false, narrowed := true }
def FieldSplitsUptoSaid : Prop := fieldSplitsUptoRow.holds Try.pinned (OpenSpec.upto fieldSplitsSpec)

/-- 'carousellaw22.EventCloses', WHERE WHAT IT READS IS OF BULK AT MOST 1048576: true; the input reads as it did. -/
def eventClosesUptoRow : OpenClaim := { program := "ytmdaaphjndjakac", sum := "08dfc6e5f39669319e322fe86c4798c07a3aacf8f4640602104ac97d2356a823", func := "carousel/carousellaw22.EventCloses", spec := "eventCloses", inPlace := ["internal/abi.NoEscape"], plainKeys := false, apart := false, narrowed := true }
def EventClosesUptoSaid : Prop := eventClosesUptoRow.holds Try.pinned (OpenSpec.upto eventClosesSpec)

/-- 'carousellaw19.RelayNever', WHERE WHAT IT READS IS OF BULK AT MOST 1048576: true; the input reads as it did. -/
def relayNeverUptoRow : OpenClaim := { program := "ytmdaaphjndjakac", sum := "08dfc6e5f39669319e322fe86c4798c07a3aacf8f4640602104ac97d2356a823", func := "carousel/carousellaw19.RelayNever", spec := "relayNever", inPlace := ["maps.clone", "internal/bytealg.IndexByteString"], unfollowed := true, recurses := true, plainKeys := false, apart := false, narrowed := true }
def RelayNeverUptoSaid : Prop := relayNeverUptoRow.holds Try.pinned (OpenSpec.upto relayNeverSpec)

/-- 'carousellaw04.OamCloses', WHERE WHAT IT READS IS OF BULK AT MOST 1048576: true; the input reads as it did. -/
def oamClosesUptoRow : OpenClaim := { program := "ytmdaaphjndjakac", sum := "08dfc6e5f39669319e322fe86c4798c07a3aacf8f4640602104ac97d2356a823", func := "carousel/carousellaw04.OamCloses", spec := "oamCloses", plainKeys := false, apart := false, narrowed := true }
def OamClosesUptoSaid : Prop := oamClosesUptoRow.holds Try.pinned (OpenSpec.upto oamClosesSpec)

/-- 'carousellaw04.OamOpens', WHERE WHAT IT READS IS OF BULK AT MOST 1048576: true; the input reads as it did. -/
def oamOpensUptoRow : OpenClaim := { program := "ytmdaaphjndjakac", sum := "08dfc6e5f39669319e322fe86c4798c07a3aacf8f4640602104ac97d2356a823", func := "carousel/carousellaw04.OamOpens", spec := "oamOpens", plainKeys := false, apart := false, narrowed := true }
def OamOpensUptoSaid : Prop := oamOpensUptoRow.holds Try.pinned (OpenSpec.upto oamOpensSpec)

/-- 'carousellaw03.TaggedCloses', WHERE WHAT IT READS IS OF BULK AT MOST 1048576: true; the input reads as it did. -/
def taggedClosesUptoRow : OpenClaim := { program := "ytmdaaphjndjakac", sum := "08dfc6e5f39669319e322fe86c4798c07a3aacf8f4640602104ac97d2356a823", func := "carousel/carousellaw03.TaggedCloses", spec := "taggedCloses", inPlace := ["internal/bytealg.IndexByteString"], plainKeys := false, apart := false, narrowed := true }
def TaggedClosesUptoSaid : Prop := taggedClosesUptoRow.holds Try.pinned (OpenSpec.upto taggedClosesSpec)

end Rows
end Go.Proofs.Ytmdaaphjndjakac
