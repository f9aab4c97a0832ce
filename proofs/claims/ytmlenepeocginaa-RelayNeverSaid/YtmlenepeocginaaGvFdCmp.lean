/- Tables of addresses: how two rows are held against each other: walked by hand, to the world. -/
import Derived.Test.YtmlenepeocginaaWMore
import Derived.Test.YtmlenepeocginaaProg
import Derived.WalkKit
import Derived.Deep.LoopGhost
import Derived.Lib.Hide
import Derived.Sort.Grow
import Derived.Deep.RegionHeld3
namespace Go.Proofs.Ytmlenepeocginaa.Gv
open Go.RowKit Go.Proofs.YtmlenepeocginaaW.PrintWords Go.Proofs.YtmlenepeocginaaW.PrintLast Go.Proofs.YtmlenepeocginaaW.PrintMore
set_option linter.unusedVariables false
set_option linter.unusedSimpArgs false
/-- New blocks and draws alone. -/
def Lays (w w' : World) : Prop := ∃ q os, w' = Go.Sort.grow (w.drewN q) os
theorem Lays.refl (w : World) : Lays w w := ⟨0, #[], by rw [Go.Sort.grow_empty]; rfl⟩
theorem fd_calls_W {P : Program} {f : FuncId} {args : Array Value} {Q : Ending → World → Prop} {W : World} (h : ∀ W', W' = W → Calls P f args W' Q) : Calls P f args W Q := h W rfl
def cmpI (x y : Int) : Int := if x < y then -1 else if y < x then 1 else 0
set_option maxHeartbeats 2000000 in
theorem nan16_calls (x : Int) (w : World) : Calls Try.prog 49 #[.int .u16 x] w fun e w' => e = .returned (.bool false) ∧ w' = w := by
  go_enter Try.func49, Try.ntmps49
  go_wp2_with fail
  go_ret
  exact ⟨rfl, rfl⟩
set_option maxHeartbeats 2000000 in
theorem nan64_calls (x : Int) (w : World) : Calls Try.prog 50 #[.int .u64 x] w fun e w' => e = .returned (.bool false) ∧ w' = w := by
  go_enter Try.func50, Try.ntmps50
  go_wp2_with fail
  go_ret
  exact ⟨rfl, rfl⟩
set_option maxHeartbeats 4000000 in
theorem comp16_calls (x y : Int) (w : World) : Calls Try.prog 25 #[.int .u16 x, .int .u16 y] w fun e w' => e = .returned (.int .i64 (cmpI x y)) ∧ w' = w := by
  by_cases h1 : x < y
  · have q1 : decide (x < y) = true := decide_eq_true h1
    rw [show cmpI x y = -1 from if_pos h1]
    clear h1
    go_enter Try.func25, Try.ntmps25
    go_wp2_with fail
    refine (nan16_calls x w).mono ?_
    rintro e' w1 ⟨rfl, rfl⟩
    go_wp2_with fail
    refine (nan16_calls y _).mono ?_
    rintro e' w2 ⟨rfl, rfl⟩
    go_wp2_with fail
    go_ret
    exact ⟨rfl, rfl⟩
  · have q1 : decide (x < y) = false := decide_eq_false h1
    by_cases h2 : y < x
    · have q2 : decide (x > y) = true := decide_eq_true h2
      have q3 : decide (y < x) = true := decide_eq_true h2
      rw [show cmpI x y = 1 from (if_neg h1).trans (if_pos h2)]
      clear h1 h2
      go_enter Try.func25, Try.ntmps25
      go_wp2_with fail
      refine (nan16_calls x w).mono ?_
      rintro e' w1 ⟨rfl, rfl⟩
      go_wp2_with fail
      refine (nan16_calls y _).mono ?_
      rintro e' w2 ⟨rfl, rfl⟩
      go_wp2_with fail
      go_ret
      exact ⟨rfl, rfl⟩
    · have q2 : decide (x > y) = false := decide_eq_false h2
      have q3 : decide (y < x) = false := decide_eq_false h2
      rw [show cmpI x y = 0 from (if_neg h1).trans (if_neg h2)]
      clear h1 h2
      go_enter Try.func25, Try.ntmps25
      go_wp2_with fail
      refine (nan16_calls x w).mono ?_
      rintro e' w1 ⟨rfl, rfl⟩
      go_wp2_with fail
      refine (nan16_calls y _).mono ?_
      rintro e' w2 ⟨rfl, rfl⟩
      go_wp2_with fail
      go_ret
      exact ⟨rfl, rfl⟩
set_option maxHeartbeats 4000000 in
theorem comp64_calls (x y : Int) (w : World) : Calls Try.prog 26 #[.int .u64 x, .int .u64 y] w fun e w' => e = .returned (.int .i64 (cmpI x y)) ∧ w' = w := by
  by_cases h1 : x < y
  · have q1 : decide (x < y) = true := decide_eq_true h1
    rw [show cmpI x y = -1 from if_pos h1]
    clear h1
    go_enter Try.func26, Try.ntmps26
    go_wp2_with fail
    refine (nan64_calls x w).mono ?_
    rintro e' w1 ⟨rfl, rfl⟩
    go_wp2_with fail
    refine (nan64_calls y _).mono ?_
    rintro e' w2 ⟨rfl, rfl⟩
    go_wp2_with fail
    go_ret
    exact ⟨rfl, rfl⟩
  · have q1 : decide (x < y) = false := decide_eq_false h1
    by_cases h2 : y < x
    · have q2 : decide (x > y) = true := decide_eq_true h2
      have q3 : decide (y < x) = true := decide_eq_true h2
      rw [show cmpI x y = 1 from (if_neg h1).trans (if_pos h2)]
      clear h1 h2
      go_enter Try.func26, Try.ntmps26
      go_wp2_with fail
      refine (nan64_calls x w).mono ?_
      rintro e' w1 ⟨rfl, rfl⟩
      go_wp2_with fail
      refine (nan64_calls y _).mono ?_
      rintro e' w2 ⟨rfl, rfl⟩
      go_wp2_with fail
      go_ret
      exact ⟨rfl, rfl⟩
    · have q2 : decide (x > y) = false := decide_eq_false h2
      have q3 : decide (y < x) = false := decide_eq_false h2
      rw [show cmpI x y = 0 from (if_neg h1).trans (if_neg h2)]
      clear h1 h2
      go_enter Try.func26, Try.ntmps26
      go_wp2_with fail
      refine (nan64_calls x w).mono ?_
      rintro e' w1 ⟨rfl, rfl⟩
      go_wp2_with fail
      refine (nan64_calls y _).mono ?_
      rintro e' w2 ⟨rfl, rfl⟩
      go_wp2_with fail
      go_ret
      exact ⟨rfl, rfl⟩
def orI (x y : Int) : Int := if x ≠ 0 then x else y
set_option maxHeartbeats 4000000 in
set_option maxRecDepth 100000 in
theorem or_calls (b : Nat) (x y : Int) (w : World) (h0 : w.cell? ⟨b, 0, none⟩ = some (.int .i64 x)) (h1 : w.cell? ⟨b, 1, none⟩ = some (.int .i64 y)) :
    Calls Try.prog 24 #[.slice (some ⟨b, 0, none⟩) 2 2] w fun e w' => e = .returned (.int .i64 (orI x y)) ∧ w' = w := by
  go_enter Try.func24, Try.ntmps24
  go_wp2_with fail
  go_loopw [8] (fun i wr => ∃ k : Nat, k ≤ 2 ∧ i = .int .i64 k ∧ wr = w ∧ (1 ≤ k → x = 0) ∧ (k = 2 → y = 0)) (fun i _ => 2 - (intOf i).toNat)
  case atStart => exact ⟨0, by omega, rfl, rfl, fun h => by omega, fun h => by omega⟩
  case round =>
    obtain ⟨k, hk, rfl, rfl, hx, hy⟩ := hrel
    have hk3 : k = 0 ∨ k = 1 ∨ k = 2 := by omega
    rcases hk3 with rfl | rfl | rfl
    · by_cases h : x = 0
      · have q1 : (x != 0) = false := bne_eq_false_iff_eq.2 h
        clear hx hy
        go_wp2_with fail
        go_roundw
        case rel => exact ⟨1, by omega, (by first | rfl | trivial), (by first | rfl | trivial), fun _ => h, fun h => by omega⟩
        case measure => simp [intOf]
      · have q1 : (x != 0) = true := bne_iff_ne.2 h
        clear hx hy
        go_wp2_with fail
        go_ret
        exact ⟨by simp [h, orI], (by first | rfl | trivial)⟩
    · have hx0 := hx (by omega)
      by_cases h : y = 0
      · have q1 : (y != 0) = false := bne_eq_false_iff_eq.2 h
        clear hx hy
        go_wp2_with fail
        go_roundw
        case rel => exact ⟨2, by omega, (by first | rfl | trivial), (by first | rfl | trivial), fun _ => hx0, fun _ => h⟩
        case measure => simp [intOf]
      · have q1 : (y != 0) = true := bne_iff_ne.2 h
        clear hx hy
        go_wp2_with fail
        go_ret
        exact ⟨by simp [hx0, orI], (by first | rfl | trivial)⟩
    · have hx0 := hx (by omega)
      have hy0 := hy rfl
      clear hx hy
      go_wp2_with fail
      go_ret
      exact ⟨by simp [hx0, hy0, orI], (by first | rfl | trivial)⟩
def rowCmp (a0 a1 b0 b1 : Int) : Int := orI (cmpI a0 b0) (cmpI a1 b1)
theorem Lays.alloc {w w' : World} (h : Lays w w') (o : Obj) : Lays w (w'.alloc o) := by
  obtain ⟨q, os, rfl⟩ := h
  exact ⟨q, os ++ #[o], by rw [Go.Sort.alloc_eq_grow, Go.Sort.grow_grow]⟩
theorem Lays.drew {w w' : World} (h : Lays w w') : Lays w w'.drew := by
  obtain ⟨q, os, rfl⟩ := h
  exact ⟨q + 1, os, rfl⟩
set_option maxHeartbeats 4000000 in
set_option maxRecDepth 100000 in
theorem cmp_calls (a0 a1 a2 a3 b0 b1 b2 b3 : Int) (w : World) :
    Calls Try.prog 23 #[.agg #[.int .u16 a0, .int .u64 a1, .int .i64 a2, .int .i64 a3], .agg #[.int .u16 b0, .int .u64 b1, .int .i64 b2, .int .i64 b3]] w fun e w' => e = .returned (.int .i64 (rowCmp a0 a1 b0 b1)) ∧ Lays w w' := by
  go_enter Try.func23, Try.ntmps23
  go_wp2_with fail
  obtain ⟨W0, hW0⟩ : ∃ W0, (w.alloc (.cells #[.int .u16 a0, .int .u64 a1, .int .i64 a2, .int .i64 a3] 64)).alloc (.cells #[.int .u16 b0, .int .u64 b1, .int .i64 b2, .int .i64 b3] 64) = W0 := ⟨_, rfl⟩
  have hx : W0.heap[w.heap.size]? = some (.cells #[.int .u16 a0, .int .u64 a1, .int .i64 a2, .int .i64 a3] 64 (0, 0)) := by rw [← hW0]; exact blk_alloc (blk_new _ _) _
  have hy : W0.heap[w.heap.size + 1]? = some (.cells #[.int .u16 b0, .int .u64 b1, .int .i64 b2, .int .i64 b3] 64 (0, 0)) := by
    rw [← hW0]
    have h := blk_new (w.alloc (.cells #[.int .u16 a0, .int .u64 a1, .int .i64 a2, .int .i64 a3] 64)) (.cells #[.int .u16 b0, .int .u64 b1, .int .i64 b2, .int .i64 b3] 64)
    rwa [show (w.alloc (.cells #[.int .u16 a0, .int .u64 a1, .int .i64 a2, .int .i64 a3] 64)).heap.size = w.heap.size + 1 from by simp] at h
  have hL : Lays w W0 := by rw [← hW0]; exact ((Lays.refl w).alloc _).alloc _
  rw [hW0]
  clear hW0
  have hS0 : (fun w' : World => w'.cell? ⟨w.heap.size, 0, none⟩ = some (.int .u16 a0) ∧ w'.cell? ⟨w.heap.size, 1, none⟩ = some (.int .u64 a1) ∧ w'.cell? ⟨w.heap.size + 1, 0, none⟩ = some (.int .u16 b0) ∧ w'.cell? ⟨w.heap.size + 1, 1, none⟩ = some (.int .u64 b1)) W0.drew := ⟨(blk_cell hx 0).trans rfl, (blk_cell hx 1).trans rfl, (blk_cell hy 0).trans rfl, (blk_cell hy 1).trans rfl⟩
  have hS1 : ∀ o, (fun w' : World => w'.cell? ⟨w.heap.size, 0, none⟩ = some (.int .u16 a0) ∧ w'.cell? ⟨w.heap.size, 1, none⟩ = some (.int .u64 a1) ∧ w'.cell? ⟨w.heap.size + 1, 0, none⟩ = some (.int .u16 b0) ∧ w'.cell? ⟨w.heap.size + 1, 1, none⟩ = some (.int .u64 b1)) (W0.drew.alloc o) := fun o => ⟨(blk_cell (blk_alloc (blk_drew hx) o) 0).trans rfl, (blk_cell (blk_alloc (blk_drew hx) o) 1).trans rfl, (blk_cell (blk_alloc (blk_drew hy) o) 0).trans rfl, (blk_cell (blk_alloc (blk_drew hy) o) 1).trans rfl⟩
  have hor : ∀ c d : Int, (W0.drew.alloc (.cells #[.int .i64 c, .int .i64 d] 3)).heap[W0.heap.size]? = some (.cells #[.int .i64 c, .int .i64 d] 3 (0, 0)) := fun c d => blk_new W0.drew _
  go_region_held3 (fun w' : World => w'.cell? ⟨w.heap.size, 0, none⟩ = some (.int .u16 a0) ∧ w'.cell? ⟨w.heap.size, 1, none⟩ = some (.int .u64 a1) ∧ w'.cell? ⟨w.heap.size + 1, 0, none⟩ = some (.int .u16 b0) ∧ w'.cell? ⟨w.heap.size + 1, 1, none⟩ = some (.int .u64 b1)) (first | (with_reducible assumption) | (with_reducible exact hS0) | exact hS1 _) (first | (go_at_call 25; refine (comp16_calls _ _ _).mono ?_; rintro e' w7 ⟨rfl, rfl⟩) | (go_at_call 26; refine (comp64_calls _ _ _).mono ?_; rintro e' w7 ⟨rfl, rfl⟩) | (go_at_call 24; refine (or_calls W0.heap.size (cmpI a0 b0) (cmpI a1 b1) _ ((blk_cell (hor (cmpI a0 b0) (cmpI a1 b1)) 0).trans rfl) ((blk_cell (hor (cmpI a0 b0) (cmpI a1 b1)) 1).trans rfl)).mono ?_; rintro e' w7 ⟨rfl, rfl⟩))
  go_wp2_with fail
  go_ret
  exact ⟨rfl, (hL.alloc _).drew⟩
end Go.Proofs.Ytmlenepeocginaa.Gv
