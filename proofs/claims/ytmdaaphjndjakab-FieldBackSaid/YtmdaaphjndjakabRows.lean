/-
  No cell of these rows narrows 'for every input' (looked for: loops, veiled, ifaces, maps, wideKeys, modest, calm, conditions, laid).
  DERIVED. THE GIVEN ROWS OF THIS SEAT. 6 by the template 'for every input the law returns true; each argument reads behind the call as it read before'; 0 by the template 'total and deterministic' (their statements: YtmdaaphjndjakabTotals.lean).
  GIVEN WITH THE SEED: the statements are not yours to turn. If you find one false, say at which input.
  Laid BY PROGRAM, IN A SANDBOX (cutbox-rows.mjs): the forced cells as the released guide's own fill.sh prints them over the translation c3513a2ede27cc12… (all of the seat's roots in one cut). By AI agents, Wed Nov 11 2026. No macro, syntax, notation, axiom, sorry.
-/
import Derived.Test.YtmdaaphjndjakabChecked
import GoSem.Claim
import GoSem.ClaimJoined
import GoSem.ClaimMapViews
import Derived.JoinedTies
import Derived.KernelRfl
namespace Go.Proofs.Ytmdaaphjndjakab
/- THE CELL 'sum', in the pinned program and in every row, IS THE sha256 OF THE DUMP (.gsa) THAT YtmdaaphjndjakabProg.lean LOADS. Nothing in Lean hashes anything: it is a label: what it is worth is what the hold of that sum in a sandbox is worth. -/
noncomputable def Try.pinned : Pinned := { name := "ytmdaaphjndjakab", sum := "c3513a2ede27cc12447b28cc1613d3d34783ca3b9057ccb06af07c88d2188b7a", checked := Try.checked }
namespace Rows
def none {H : Type} : Left H := { results := [], args := [] }

/-- 'carousellaw21.WirePlays': WHATEVER THE INPUT: true; the input reads as it did. -/
def wirePlaysSpec : ChangeSpec := { name := "wirePlays", fn := fun _ => fun
  | [d1, d2] => { results := [.lit (.bool true)], args := [d1, d2] }
  | _ => none }
def wirePlaysRow : OpenClaim := { program := "ytmdaaphjndjakab", sum := "c3513a2ede27cc12447b28cc1613d3d34783ca3b9057ccb06af07c88d2188b7a", func := "carousel/carousellaw21.WirePlays", spec := "wirePlays", plainKeys := false, apart := false }
def WirePlaysSaid : Prop := wirePlaysRow.holds Try.pinned (OpenSpec.ofChange wirePlaysSpec)

/-- ITS FALSE NEIGHBOUR: 'it returns false'. Refute it at one input. -/
def wirePlaysWrong : ChangeSpec := { name := "wirePlays", fn := fun _ => fun
  | [d1, d2] => { results := [.lit (.bool false)], args := [d1, d2] }
  | _ => none }
def WirePlaysWrongFalsely : Prop := wirePlaysRow.holds Try.pinned (OpenSpec.ofChange wirePlaysWrong)

/-- 'carousellaw07.TallyOrders': WHATEVER THE INPUT: true; the input reads as it did. -/
def tallyOrdersSpec : ChangeSpec := { name := "tallyOrders", fn := fun _ => fun
  | [d1, d2] => { results := [.lit (.bool true)], args := [d1, d2] }
  | _ => none }
def tallyOrdersRow : OpenClaim := { program := "ytmdaaphjndjakab", sum := "c3513a2ede27cc12447b28cc1613d3d34783ca3b9057ccb06af07c88d2188b7a", func := "carousel/carousellaw07.TallyOrders", spec := "tallyOrders", inPlace := ["sync/atomic.LoadUint64", "sync/atomic.CompareAndSwapUint64"], plainKeys := false, apart := false }
def TallyOrdersSaid : Prop := tallyOrdersRow.holds Try.pinned (OpenSpec.ofChange tallyOrdersSpec)

/-- ITS FALSE NEIGHBOUR: 'it returns false'. Refute it at one input. -/
def tallyOrdersWrong : ChangeSpec := { name := "tallyOrders", fn := fun _ => fun
  | [d1, d2] => { results := [.lit (.bool false)], args := [d1, d2] }
  | _ => none }
def TallyOrdersWrongFalsely : Prop := tallyOrdersRow.holds Try.pinned (OpenSpec.ofChange tallyOrdersWrong)

/-- 'carousellaw07.TallyPlays': WHATEVER THE INPUT: true; the input reads as it did. -/
def tallyPlaysSpec : ChangeSpec := { name := "tallyPlays", fn := fun _ => fun
  | [d] => { results := [.lit (.bool true)], args := [d] }
  | _ => none }
def tallyPlaysRow : OpenClaim := { program := "ytmdaaphjndjakab", sum := "c3513a2ede27cc12447b28cc1613d3d34783ca3b9057ccb06af07c88d2188b7a", func := "carousel/carousellaw07.TallyPlays", spec := "tallyPlays", inPlace := ["sync/atomic.LoadUint64", "sync/atomic.CompareAndSwapUint64", "sync/atomic.SwapUint64"], plainKeys := false, apart := false }
def TallyPlaysSaid : Prop := tallyPlaysRow.holds Try.pinned (OpenSpec.ofChange tallyPlaysSpec)

/-- ITS FALSE NEIGHBOUR: 'it returns false'. Refute it at one input. -/
def tallyPlaysWrong : ChangeSpec := { name := "tallyPlays", fn := fun _ => fun
  | [d] => { results := [.lit (.bool false)], args := [d] }
  | _ => none }
def TallyPlaysWrongFalsely : Prop := tallyPlaysRow.holds Try.pinned (OpenSpec.ofChange tallyPlaysWrong)

/-- 'carousellaw04.OamIs': WHATEVER THE INPUT: true; the input reads as it did. -/
def oamIsSpec : ChangeSpec := { name := "oamIs", fn := fun _ => fun
  | [d1, d2, d3, d4, d5] => { results := [.lit (.bool true)], args := [d1, d2, d3, d4, d5] }
  | _ => none }
def oamIsRow : OpenClaim := { program := "ytmdaaphjndjakab", sum := "c3513a2ede27cc12447b28cc1613d3d34783ca3b9057ccb06af07c88d2188b7a", func := "carousel/carousellaw04.OamIs", spec := "oamIs", plainKeys := false, apart := false }
def OamIsSaid : Prop := oamIsRow.holds Try.pinned (OpenSpec.ofChange oamIsSpec)

/-- ITS FALSE NEIGHBOUR: 'it returns false'. Refute it at one input. -/
def oamIsWrong : ChangeSpec := { name := "oamIs", fn := fun _ => fun
  | [d1, d2, d3, d4, d5] => { results := [.lit (.bool false)], args := [d1, d2, d3, d4, d5] }
  | _ => none }
def OamIsWrongFalsely : Prop := oamIsRow.holds Try.pinned (OpenSpec.ofChange oamIsWrong)

/-- 'carousellaw11.FdbPlays': WHATEVER THE INPUT: true; the input reads as it did. -/
def fdbPlaysSpec : ChangeSpec := { name := "fdbPlays", fn := fun _ => fun
  | [d1, d2, d3] => { results := [.lit (.bool true)], args := [d1, d2, d3] }
  | _ => none }
def fdbPlaysRow : OpenClaim := { program := "ytmdaaphjndjakab", sum := "c3513a2ede27cc12447b28cc1613d3d34783ca3b9057ccb06af07c88d2188b7a", func := "carousel/carousellaw11.FdbPlays", spec := "fdbPlays", inPlace := ["maps.clone", "internal/bytealg.IndexByteString"], unfollowed := true, recurses := true, plainKeys := false, apart := false }
def FdbPlaysSaid : Prop := fdbPlaysRow.holds Try.pinned (OpenSpec.ofChange fdbPlaysSpec)

/-- ITS FALSE NEIGHBOUR: 'it returns false'. Refute it at one input. -/
def fdbPlaysWrong : ChangeSpec := { name := "fdbPlays", fn := fun _ => fun
  | [d1, d2, d3] => { results := [.lit (.bool false)], args := [d1, d2, d3] }
  | _ => none }
def FdbPlaysWrongFalsely : Prop := fdbPlaysRow.holds Try.pinned (OpenSpec.ofChange fdbPlaysWrong)

/-- 'carousellaw01.FieldBack': WHATEVER THE INPUT: true; the input reads as it did. -/
def fieldBackSpec : ChangeSpec := { name := "fieldBack", fn := fun _ => fun
  | [d1, d2, d3, d4] => { results := [.lit (.bool true)], args := [d1, d2, d3, d4] }
  | _ => none }
def fieldBackRow : OpenClaim := { program := "ytmdaaphjndjakab", sum := "c3513a2ede27cc12447b28cc1613d3d34783ca3b9057ccb06af07c88d2188b7a", func := "carousel/carousellaw01.FieldBack", spec := "fieldBack", plainKeys := false, apart := false }
def FieldBackSaid : Prop := fieldBackRow.holds Try.pinned (OpenSpec.ofChange fieldBackSpec)

/-- ITS FALSE NEIGHBOUR: 'it returns false'. Refute it at one input. -/
def fieldBackWrong : ChangeSpec := { name := "fieldBack", fn := fun _ => fun
  | [d1, d2, d3, d4] => { results := [.lit (.bool false)], args := [d1, d2, d3, d4] }
  | _ => none }
def FieldBackWrongFalsely : Prop := fieldBackRow.holds Try.pinned (OpenSpec.ofChange fieldBackWrong)

/- THE SECOND FORM. 'bulk': how many values and letters a reading holds, each counted each time it is reached (what is shared counts as often as it is met; a slice's spare places count too). A statement '..UptoSaid' is the law's where the arguments, and the package variables that the reading takes, are together of bulk at most 1048576: NARROWER than '..Said'. Prove '..Said' where nothing that the law and all that it calls make is longer than what came in: it says more and counts as full. Else prove '..UptoSaid'. A law counts once. -/
mutual
def uptoBulk {H : Type} : DataW H → Nat
  | .lit (.string bytes) => bytes.length + 1
  | .lit _ => 1
  | .nil => 1
  | .ptr d => uptoBulk d + 1
  | .slice elems spare => uptoBulkAll elems + uptoBulkAll spare + 1
  | .agg parts => uptoBulkAll parts + 1
  | .iface _ d => uptoBulk d + 1
  | .map entries => uptoBulkEntries entries + 1
  | .held _ => 1
def uptoBulkAll {H : Type} : List (DataW H) → Nat
  | [] => 0
  | d :: r => uptoBulk d + uptoBulkAll r
def uptoBulkEntries {H : Type} : List (Lit × DataW H) → Nat
  | [] => 0
  | x :: r => uptoBulkEntry x + uptoBulkEntries r
def uptoBulkEntry {H : Type} : Lit × DataW H → Nat
  | (.string bytes, d) => bytes.length + uptoBulk d + 1
  | (_, d) => uptoBulk d + 1
 end
def uptoSmall : (H : Type) → List (DataW H) → Bool := fun _ ds => decide (uptoBulkAll ds ≤ 1048576)
def OpenSpec.upto (s : _root_.Go.ChangeSpec) : _root_.Go.OpenSpec := { _root_.Go.OpenSpec.ofChange s with cond := some uptoSmall }

/-- 'carousellaw21.WirePlays', WHERE WHAT IT READS IS OF BULK AT MOST 1048576: true; the input reads as it did. -/
def wirePlaysUptoRow : OpenClaim := { program := "ytmdaaphjndjakab", sum := "c3513a2ede27cc12447b28cc1613d3d34783ca3b9057ccb06af07c88d2188b7a", func := "carousel/carousellaw21.WirePlays", spec := "wirePlays", plainKeys := false, apart := false, narrowed := true }
def WirePlaysUptoSaid : Prop := wirePlaysUptoRow.holds Try.pinned (OpenSpec.upto wirePlaysSpec)

/-- 'carousellaw07.TallyOrders', WHERE WHAT IT READS IS OF BULK AT MOST 1048576: true; the input reads as it did. -/
def tallyOrdersUptoRow : OpenClaim := { program := "ytmdaaphjndjakab", sum := "c3513a2ede27cc12447b28cc1613d3d34783ca3b9057ccb06af07c88d2188b7a", func := "carousel/carousellaw07.TallyOrders", spec := "tallyOrders", inPlace := ["sync/atomic.LoadUint64", "sync/atomic.CompareAndSwapUint64"], plainKeys := false, apart := false, narrowed := true }
def TallyOrdersUptoSaid : Prop := tallyOrdersUptoRow.holds Try.pinned (OpenSpec.upto tallyOrdersSpec)

/-- 'carousellaw07.TallyPlays', WHERE WHAT IT READS IS OF BULK AT MOST 1048576: true; the input reads as it did. -/
def tallyPlaysUptoRow : OpenClaim := { program := "ytmdaaphjndjakab", sum := "c3513a2ede27cc12447b28cc1613d3d34783ca3b9057ccb06af07c88d2188b7a", func := "carousel/carousellaw07.TallyPlays", spec := "tallyPlays", inPlace := ["sync/atomic.LoadUint64", "sync/atomic.CompareAndSwapUint64", "sync/atomic.SwapUint64"], plainKeys := false, apart := false, narrowed := true }
def TallyPlaysUptoSaid : Prop := tallyPlaysUptoRow.holds Try.pinned (OpenSpec.upto tallyPlaysSpec)

/-- 'carousellaw04.OamIs', WHERE WHAT IT READS IS OF BULK AT MOST 1048576: true; the input reads as it did. -/
def oamIsUptoRow : OpenClaim := { program := "ytmdaaphjndjakab", sum := "c3513a2ede27cc12447b28cc1613d3d34783ca3b9057ccb06af07c88d2188b7a", func := "carousel/carousellaw04.OamIs", spec := "oamIs", plainKeys := false, apart := false, narrowed := true }
def OamIsUptoSaid : Prop := oamIsUptoRow.holds Try.pinned (OpenSpec.upto oamIsSpec)

/-- 'carousellaw11.FdbPlays', WHERE WHAT IT READS IS OF BULK AT MOST 1048576: true; the input reads as it did. -/
def fdbPlaysUptoRow : OpenClaim := { program := "ytmdaaphjndjakab", sum := "c3513a2ede27cc12447b28cc1613d3d34783ca3b9057ccb06af07c88d2188b7a", func := "carousel/carousellaw11.FdbPlays", spec := "fdbPlays", inPlace := ["maps.clone", "internal/bytealg.IndexByteString"], unfollowed := true, recurses := true, plainKeys := false, apart := false, narrowed := true }
def FdbPlaysUptoSaid : Prop := fdbPlaysUptoRow.holds Try.pinned (OpenSpec.upto fdbPlaysSpec)

/-- 'carousellaw01.FieldBack', WHERE WHAT IT READS IS OF BULK AT MOST 1048576: true; the input reads as it did. -/
def fieldBackUptoRow : OpenClaim := { program := "ytmdaaphjndjakab", sum := "c3513a2ede27cc12447b28cc1613d3d34783ca3b9057ccb06af07c88d2188b7a", func := "carousel/carousellaw01.FieldBack", spec := "fieldBack", plainKeys := false, apart := false, narrowed := true }
def FieldBackUptoSaid : Prop := fieldBackUptoRow.holds Try.pinned (OpenSpec.upto fieldBackSpec)

end Rows
end Go.Proofs.Ytmdaaphjndjakab
