/- Counters, walked by hand. -/
import Derived.Test.YtehicbehljfkhaaWMore
import Derived.Test.YtehicbehljfkhaaProg
import Derived.WalkKit
import Derived.Laws.LoneSync
import Derived.Maps.AppendAt
import Derived.Deep.LoopGhost
import Derived.Lib.Hide
import Derived.WideLaws
namespace Go.Proofs.Ytehicbehljfkhaa.Ta
set_option linter.unusedVariables false
set_option linter.unusedSimpArgs false
open Go.RowKit Go.Proofs.YtehicbehljfkhaaW.PrintWords Go.Proofs.YtehicbehljfkhaaW.PrintLast Go.Proofs.YtehicbehljfkhaaW.PrintMore
theorem ta_post {P : Program} {fn : Func} {R : Ending → World → Prop} {x : Exit} {a : Act} {W : World} (h : ∀ W', W' = W → bodyPost P fn R x a W') : bodyPost P fn R x a W := h W rfl
theorem calls_W {P : Program} {f : FuncId} {args : Array Value} {Q : Ending → World → Prop} {W : World} (h : ∀ W', W' = W → Calls P f args W' Q) : Calls P f args W Q := h W rfl
theorem below_call {w W w1 : World} (h : Below w.heap.size w W) (hb : Below W.heap.size W w1) : Below w.heap.size w w1 := h.trans (hb.mono h.size)
theorem ta_set {w W : World} {p : Addr} (h : Below w.heap.size w W) (hp : w.heap.size ≤ p.block) (v : Value) : Below w.heap.size w (W.setCell p v) := h.setCell hp v
/-- The counters' cells. -/
def cellsOf (l : List Int) : Array Value := (l.map (Value.int .u64)).toArray
def TIs (w : World) (b : Nat) (l : List Int) : Prop := w.heap[b]? = some (.cells (cellsOf l) 71 (0, 0))
theorem TIs.cell {w : World} {b : Nat} {l : List Int} (h : TIs w b l) (k : Nat) (hk : k < l.length) : w.cell? ⟨b, k, none⟩ = some (.int .u64 l[k]) := by
  rw [blk_cell h k]
  simp [cellsOf, hk]
set_option maxHeartbeats 4000000 in
theorem load_ok (b k : Nat) (x : Int) (w : World) (hc : w.cell? ⟨b, k, none⟩ = some (.int .u64 x)) :
    Calls Try.prog 27 #[.pointer (some ⟨b, k, none⟩)] w fun e w' => e = .returned (.int .u64 x) ∧ w = w' := by
  have hu68 := Try.underlying68
  have hl := run_call_load (P := Try.prog) Try.func30 (by kernel_rfl) (by kernel_rfl) (by kernel_rfl) .u64 (by kernel_rfl) hc
  go_enter Try.func27, Try.ntmps27
  go_wp2
  go_ret
  exact ⟨rfl, rfl⟩
set_option maxHeartbeats 4000000 in
theorem cas_ok (b k : Nat) (x y : Int) (w : World) (hc : w.cell? ⟨b, k, none⟩ = some (.int .u64 x)) (hf : w.frozen? ⟨b, k, none⟩ = false) :
    Calls Try.prog 28 #[.pointer (some ⟨b, k, none⟩), .int .u64 x, .int .u64 y] w fun e w' => e = .returned (.bool true) ∧ w.setCell ⟨b, k, none⟩ (.int .u64 y) = w' := by
  have hu68 := Try.underlying68
  have hl := run_call_cas_hit (P := Try.prog) Try.func31 (by kernel_rfl) (by kernel_rfl) (by kernel_rfl) .u64 (by kernel_rfl) (y := y) hc hf
  go_enter Try.func28, Try.ntmps28
  go_wp2
  go_ret
  exact ⟨rfl, rfl⟩
set_option maxHeartbeats 4000000 in
theorem new_ok (w : World) : Calls Try.prog 17 #[] w fun e w' => e = .returned (.pointer (some ⟨w.heap.size, 0, none⟩)) ∧ TIs w' w.heap.size (List.replicate 16 0) ∧ Below w.heap.size w w' := by
  have hu71 := Try.underlying71
  go_enter Try.func17, Try.ntmps17
  go_wp2
  go_ret
  exact ⟨rfl, blk_new _ _, below_alloc (Below.refl _ _) _⟩
set_option maxHeartbeats 4000000 in
theorem has_ok (k : Int) (w : World) : Calls Try.prog 26 #[.int .i64 k] w fun e w' => e = .returned (.bool (decide (0 ≤ k ∧ k < 16))) ∧ w = w' := by
  by_cases h0 : 0 ≤ k
  · have q0 : decide (k ≥ 0) = true := decide_eq_true h0
    have q1 : decide (0 ≤ k) = true := decide_eq_true h0
    go_enter Try.func26, Try.ntmps26
    go_wp2
    go_ret
    exact ⟨by simp [h0], rfl⟩
  · have q0 : decide (k ≥ 0) = false := decide_eq_false h0
    have q1 : decide (0 ≤ k) = false := decide_eq_false h0
    go_enter Try.func26, Try.ntmps26
    go_wp2
    go_ret
    exact ⟨by simp [h0], rfl⟩
end Go.Proofs.Ytehicbehljfkhaa.Ta
