/- A kind's word, walked by hand. (Written by mkevs.py.) -/
import Derived.Test.YtkjjdphlfbecdaaGvEvRef
namespace Go.Proofs.Ytkjjdphlfbecdaa.Gv
open Go.RowKit Go.Proofs.YtkjjdphlfbecdaaW.PrintWords Go.Proofs.YtkjjdphlfbecdaaW.PrintLast Go.Proofs.YtkjjdphlfbecdaaW.PrintMore
set_option linter.unusedVariables false
set_option linter.unusedSimpArgs false
def evWord (n : Int) : ByteArray :=
  if n = 0 then (⟨#[116, 105, 99, 107]⟩ : ByteArray) else
  if n = 1 then (⟨#[100, 101, 108, 105, 118, 101, 114]⟩ : ByteArray) else
  if n = 2 then (⟨#[100, 114, 111, 112]⟩ : ByteArray) else
  if n = 3 then (⟨#[100, 111, 119, 110]⟩ : ByteArray) else
  if n = 4 then (⟨#[117, 112]⟩ : ByteArray) else
  if n = 5 then (⟨#[111, 114, 100, 101, 114]⟩ : ByteArray) else
  if n = 6 then (⟨#[104, 111, 115, 116]⟩ : ByteArray) else
  if n = 7 then (⟨#[102, 108, 111, 119]⟩ : ByteArray) else
  (⟨#[110, 111, 110, 101]⟩ : ByteArray)
set_option maxHeartbeats 4000000 in
set_option maxRecDepth 100000 in
theorem word_0 (w : World) : Calls Try.prog 12 #[.int .u8 0] w fun e w' => e = .returned (.string (⟨#[116, 105, 99, 107]⟩ : ByteArray)) ∧ Below w.heap.size w w' := by
  have huA := Try.underlying60
  have hz := (blk_cell (blk_new w (.cells #[.string (⟨#[116, 105, 99, 107]⟩ : ByteArray), .string (⟨#[100, 101, 108, 105, 118, 101, 114]⟩ : ByteArray), .string (⟨#[100, 114, 111, 112]⟩ : ByteArray), .string (⟨#[100, 111, 119, 110]⟩ : ByteArray), .string (⟨#[117, 112]⟩ : ByteArray), .string (⟨#[111, 114, 100, 101, 114]⟩ : ByteArray), .string (⟨#[104, 111, 115, 116]⟩ : ByteArray), .string (⟨#[102, 108, 111, 119]⟩ : ByteArray)] 60)) 0).trans rfl
  go_enter Try.func12, Try.ntmps12
  go_wp2
  exact bodyPost_ret (v := .string (⟨#[116, 105, 99, 107]⟩ : ByteArray)) (by simp [results, Try.results12, go_sem]) rfl ⟨rfl, below_alloc (Below.refl _ _) _⟩
set_option maxHeartbeats 4000000 in
set_option maxRecDepth 100000 in
theorem word_1 (w : World) : Calls Try.prog 12 #[.int .u8 1] w fun e w' => e = .returned (.string (⟨#[100, 101, 108, 105, 118, 101, 114]⟩ : ByteArray)) ∧ Below w.heap.size w w' := by
  have huA := Try.underlying60
  have hz := (blk_cell (blk_new w (.cells #[.string (⟨#[116, 105, 99, 107]⟩ : ByteArray), .string (⟨#[100, 101, 108, 105, 118, 101, 114]⟩ : ByteArray), .string (⟨#[100, 114, 111, 112]⟩ : ByteArray), .string (⟨#[100, 111, 119, 110]⟩ : ByteArray), .string (⟨#[117, 112]⟩ : ByteArray), .string (⟨#[111, 114, 100, 101, 114]⟩ : ByteArray), .string (⟨#[104, 111, 115, 116]⟩ : ByteArray), .string (⟨#[102, 108, 111, 119]⟩ : ByteArray)] 60)) 1).trans rfl
  go_enter Try.func12, Try.ntmps12
  go_wp2
  exact bodyPost_ret (v := .string (⟨#[100, 101, 108, 105, 118, 101, 114]⟩ : ByteArray)) (by simp [results, Try.results12, go_sem]) rfl ⟨rfl, below_alloc (Below.refl _ _) _⟩
set_option maxHeartbeats 4000000 in
set_option maxRecDepth 100000 in
theorem word_2 (w : World) : Calls Try.prog 12 #[.int .u8 2] w fun e w' => e = .returned (.string (⟨#[100, 114, 111, 112]⟩ : ByteArray)) ∧ Below w.heap.size w w' := by
  have huA := Try.underlying60
  have hz := (blk_cell (blk_new w (.cells #[.string (⟨#[116, 105, 99, 107]⟩ : ByteArray), .string (⟨#[100, 101, 108, 105, 118, 101, 114]⟩ : ByteArray), .string (⟨#[100, 114, 111, 112]⟩ : ByteArray), .string (⟨#[100, 111, 119, 110]⟩ : ByteArray), .string (⟨#[117, 112]⟩ : ByteArray), .string (⟨#[111, 114, 100, 101, 114]⟩ : ByteArray), .string (⟨#[104, 111, 115, 116]⟩ : ByteArray), .string (⟨#[102, 108, 111, 119]⟩ : ByteArray)] 60)) 2).trans rfl
  go_enter Try.func12, Try.ntmps12
  go_wp2
  exact bodyPost_ret (v := .string (⟨#[100, 114, 111, 112]⟩ : ByteArray)) (by simp [results, Try.results12, go_sem]) rfl ⟨rfl, below_alloc (Below.refl _ _) _⟩
set_option maxHeartbeats 4000000 in
set_option maxRecDepth 100000 in
theorem word_3 (w : World) : Calls Try.prog 12 #[.int .u8 3] w fun e w' => e = .returned (.string (⟨#[100, 111, 119, 110]⟩ : ByteArray)) ∧ Below w.heap.size w w' := by
  have huA := Try.underlying60
  have hz := (blk_cell (blk_new w (.cells #[.string (⟨#[116, 105, 99, 107]⟩ : ByteArray), .string (⟨#[100, 101, 108, 105, 118, 101, 114]⟩ : ByteArray), .string (⟨#[100, 114, 111, 112]⟩ : ByteArray), .string (⟨#[100, 111, 119, 110]⟩ : ByteArray), .string (⟨#[117, 112]⟩ : ByteArray), .string (⟨#[111, 114, 100, 101, 114]⟩ : ByteArray), .string (⟨#[104, 111, 115, 116]⟩ : ByteArray), .string (⟨#[102, 108, 111, 119]⟩ : ByteArray)] 60)) 3).trans rfl
  go_enter Try.func12, Try.ntmps12
  go_wp2
  exact bodyPost_ret (v := .string (⟨#[100, 111, 119, 110]⟩ : ByteArray)) (by simp [results, Try.results12, go_sem]) rfl ⟨rfl, below_alloc (Below.refl _ _) _⟩
set_option maxHeartbeats 4000000 in
set_option maxRecDepth 100000 in
theorem word_4 (w : World) : Calls Try.prog 12 #[.int .u8 4] w fun e w' => e = .returned (.string (⟨#[117, 112]⟩ : ByteArray)) ∧ Below w.heap.size w w' := by
  have huA := Try.underlying60
  have hz := (blk_cell (blk_new w (.cells #[.string (⟨#[116, 105, 99, 107]⟩ : ByteArray), .string (⟨#[100, 101, 108, 105, 118, 101, 114]⟩ : ByteArray), .string (⟨#[100, 114, 111, 112]⟩ : ByteArray), .string (⟨#[100, 111, 119, 110]⟩ : ByteArray), .string (⟨#[117, 112]⟩ : ByteArray), .string (⟨#[111, 114, 100, 101, 114]⟩ : ByteArray), .string (⟨#[104, 111, 115, 116]⟩ : ByteArray), .string (⟨#[102, 108, 111, 119]⟩ : ByteArray)] 60)) 4).trans rfl
  go_enter Try.func12, Try.ntmps12
  go_wp2
  exact bodyPost_ret (v := .string (⟨#[117, 112]⟩ : ByteArray)) (by simp [results, Try.results12, go_sem]) rfl ⟨rfl, below_alloc (Below.refl _ _) _⟩
set_option maxHeartbeats 4000000 in
set_option maxRecDepth 100000 in
theorem word_5 (w : World) : Calls Try.prog 12 #[.int .u8 5] w fun e w' => e = .returned (.string (⟨#[111, 114, 100, 101, 114]⟩ : ByteArray)) ∧ Below w.heap.size w w' := by
  have huA := Try.underlying60
  have hz := (blk_cell (blk_new w (.cells #[.string (⟨#[116, 105, 99, 107]⟩ : ByteArray), .string (⟨#[100, 101, 108, 105, 118, 101, 114]⟩ : ByteArray), .string (⟨#[100, 114, 111, 112]⟩ : ByteArray), .string (⟨#[100, 111, 119, 110]⟩ : ByteArray), .string (⟨#[117, 112]⟩ : ByteArray), .string (⟨#[111, 114, 100, 101, 114]⟩ : ByteArray), .string (⟨#[104, 111, 115, 116]⟩ : ByteArray), .string (⟨#[102, 108, 111, 119]⟩ : ByteArray)] 60)) 5).trans rfl
  go_enter Try.func12, Try.ntmps12
  go_wp2
  exact bodyPost_ret (v := .string (⟨#[111, 114, 100, 101, 114]⟩ : ByteArray)) (by simp [results, Try.results12, go_sem]) rfl ⟨rfl, below_alloc (Below.refl _ _) _⟩
set_option maxHeartbeats 4000000 in
set_option maxRecDepth 100000 in
theorem word_6 (w : World) : Calls Try.prog 12 #[.int .u8 6] w fun e w' => e = .returned (.string (⟨#[104, 111, 115, 116]⟩ : ByteArray)) ∧ Below w.heap.size w w' := by
  have huA := Try.underlying60
  have hz := (blk_cell (blk_new w (.cells #[.string (⟨#[116, 105, 99, 107]⟩ : ByteArray), .string (⟨#[100, 101, 108, 105, 118, 101, 114]⟩ : ByteArray), .string (⟨#[100, 114, 111, 112]⟩ : ByteArray), .string (⟨#[100, 111, 119, 110]⟩ : ByteArray), .string (⟨#[117, 112]⟩ : ByteArray), .string (⟨#[111, 114, 100, 101, 114]⟩ : ByteArray), .string (⟨#[104, 111, 115, 116]⟩ : ByteArray), .string (⟨#[102, 108, 111, 119]⟩ : ByteArray)] 60)) 6).trans rfl
  go_enter Try.func12, Try.ntmps12
  go_wp2
  exact bodyPost_ret (v := .string (⟨#[104, 111, 115, 116]⟩ : ByteArray)) (by simp [results, Try.results12, go_sem]) rfl ⟨rfl, below_alloc (Below.refl _ _) _⟩
set_option maxHeartbeats 4000000 in
set_option maxRecDepth 100000 in
theorem word_7 (w : World) : Calls Try.prog 12 #[.int .u8 7] w fun e w' => e = .returned (.string (⟨#[102, 108, 111, 119]⟩ : ByteArray)) ∧ Below w.heap.size w w' := by
  have huA := Try.underlying60
  have hz := (blk_cell (blk_new w (.cells #[.string (⟨#[116, 105, 99, 107]⟩ : ByteArray), .string (⟨#[100, 101, 108, 105, 118, 101, 114]⟩ : ByteArray), .string (⟨#[100, 114, 111, 112]⟩ : ByteArray), .string (⟨#[100, 111, 119, 110]⟩ : ByteArray), .string (⟨#[117, 112]⟩ : ByteArray), .string (⟨#[111, 114, 100, 101, 114]⟩ : ByteArray), .string (⟨#[104, 111, 115, 116]⟩ : ByteArray), .string (⟨#[102, 108, 111, 119]⟩ : ByteArray)] 60)) 7).trans rfl
  go_enter Try.func12, Try.ntmps12
  go_wp2
  exact bodyPost_ret (v := .string (⟨#[102, 108, 111, 119]⟩ : ByteArray)) (by simp [results, Try.results12, go_sem]) rfl ⟨rfl, below_alloc (Below.refl _ _) _⟩
set_option maxHeartbeats 4000000 in
set_option maxRecDepth 100000 in
theorem word_no (k : Int) (h : 7 < k) (w : World) : Calls Try.prog 12 #[.int .u8 k] w fun e w' => e = .returned (.string (⟨#[110, 111, 110, 101]⟩ : ByteArray)) ∧ Below w.heap.size w w' := by
  have huA := Try.underlying60
  have r1 : decide (k > 7) = true := decide_eq_true h
  have r2 : decide (7 < k) = true := decide_eq_true h
  go_enter Try.func12, Try.ntmps12
  go_wp2
  exact bodyPost_ret (v := .string (⟨#[110, 111, 110, 101]⟩ : ByteArray)) (by simp [results, Try.results12, go_sem]) rfl ⟨rfl, below_alloc (Below.refl _ _) _⟩
theorem word_calls (k : Int) (h0 : 0 ≤ k) (w : World) : Calls Try.prog 12 #[.int .u8 k] w fun e w' => e = .returned (.string (evWord k)) ∧ Below w.heap.size w w' := by
  by_cases c0 : k = 0
  · subst c0; exact word_0 w
  by_cases c1 : k = 1
  · subst c1; exact word_1 w
  by_cases c2 : k = 2
  · subst c2; exact word_2 w
  by_cases c3 : k = 3
  · subst c3; exact word_3 w
  by_cases c4 : k = 4
  · subst c4; exact word_4 w
  by_cases c5 : k = 5
  · subst c5; exact word_5 w
  by_cases c6 : k = 6
  · subst c6; exact word_6 w
  by_cases c7 : k = 7
  · subst c7; exact word_7 w
  unfold evWord
  rw [if_neg c0, if_neg c1, if_neg c2, if_neg c3, if_neg c4, if_neg c5, if_neg c6, if_neg c7]
  exact word_no k (by omega) w
end Go.Proofs.Ytkjjdphlfbecdaa.Gv
