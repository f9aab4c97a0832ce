/- Tables of addresses: the document's example. -/
import Derived.Test.YtmlenepeocginaaGvFdGone
namespace Go.Proofs.Ytmlenepeocginaa.Gv
open Go.RowKit Go.Maps Go.WideElems Go.Lib Go.Proofs.YtmlenepeocginaaW.PrintWords Go.Proofs.YtmlenepeocginaaW.PrintLast Go.Proofs.YtmlenepeocginaaW.PrintMore
set_option linter.unusedVariables false
set_option linter.unusedSimpArgs false
theorem ln_one (room now k0 k1 port : Int) (L : List Rw) (code : Int) (L' : List Rw) (h : LN room now k0 k1 port L code L') (h0 : 1 ≤ k0 ∧ k0 ≤ 4094) (h1 : k1 ≤ 281474976710655) (h2 : grpI k1 = false) (h3 : 0 ≤ port ∧ port ≤ 2) (h4 : (L.length : Int) < room) : code = 0 ∧ L' = (k0, k1, port, now) :: L.filter (fun q => decide (rk q ≠ (k0, k1))) := by
  rcases h with h | h | h | h | h
  · omega
  · rcases h.2.2.2.2 with h5 | h5
    · omega
    · rw [h2] at h5; cases h5
  · omega
  · have := h.2.2.2.2.2.2.2.2.2; omega
  · exact ⟨h.1, h.2.1⟩
set_option maxHeartbeats 16000000 in
set_option maxRecDepth 100000 in
theorem awake_calls (h02 : ∀ w, Calls Try.prog 20 #[] w fun e w' => e = .returned (.bool true) ∧ Below w.heap.size w w') (w : World) :
    Calls Try.prog 5 #[] w fun e w' => e = .returned (.bool true) ∧ Below w.heap.size w w' := by
  go_enter Try.func5, Try.ntmps5
  go_wp2_with fail
  refine (new_calls 2 5 w).mono ?_
  rintro e' w1 ⟨h, hb1⟩
  rcases h with ⟨_, rfl⟩ | ⟨hn, _⟩
  rotate_left
  · exact absurd (by unfold newOk; omega) hn
  have hz1 := hb1.size
  have H1 := Lib.hid hb1
  clear hb1
  go_wp2_with fail
  refine fd_calls_W ?_
  intro W1 hW1
  have hB1 : Below w.heap.size w W1 := by rw [hW1]; repeat (first | exact H1.out | apply below_alloc)
  have hx1 : W1.heap[w1.heap.size]? = some (.cells #[.int .i64 2, .int .i64 5, .map none] 26) := by rw [hW1]; exact blk_new _ _
  clear hW1
  refine (learn_calls 2 5 0 1 2 0 none [] (by simp) (by decide) (by decide) W1 (.inl ⟨rfl, rfl⟩)).mono ?_
  rintro e' w2 ⟨mb2, L2, code2, rfl, hl2, hT2, hb2⟩
  obtain ⟨rfl, rfl⟩ := ln_one _ _ _ _ _ _ _ _ hl2 (by omega) (by omega) (by decide) (by omega) (by simp)
  have hT2 : Tab w2 mb2 [(1, 2, 0, 0)] := by simpa using hT2
  have hB2 := hB1.trans (hb2.mono hB1.size)
  have hx2 := blk_below hx1 hb2
  have hz2 := hB2.size
  have hc_0 : w2.cell? ⟨w1.heap.size, 0, none⟩ = some (.int .i64 2) := (blk_cell hx2 0).trans rfl
  have hc_1 : w2.cell? ⟨w1.heap.size, 1, none⟩ = some (.int .i64 5) := (blk_cell hx2 1).trans rfl
  have hc_2 : w2.cell? ⟨w1.heap.size, 2, none⟩ = some (.map none) := (blk_cell hx2 2).trans rfl
  have hf_0 := blk_frozen hx2 0
  have hf_1 := blk_frozen hx2 1
  have hf_2 := blk_frozen hx2 2
  have H2 := Lib.hid (And.intro hT2 (And.intro hB2 hx2))
  clear hl2 hT2 hb2 hB2 hB1 hx1 hx2
  go_wp2_with fail
  refine fd_calls_W ?_
  intro W2 hW2
  have hB2 : Below w.heap.size w W2 := by rw [hW2]; exact below_set (below_set (below_set H2.out.2.1 hz1) hz1) hz1
  have hx2 : W2.heap[w1.heap.size]? = some (.cells #[.int .i64 2, .int .i64 5, .map mb2] 26) := by rw [hW2]; refine blk_put (cs := #[.int .i64 2, .int .i64 5, .map none]) ?_ 2 _ rfl; refine blk_put (cs := #[.int .i64 2, .int .i64 5, .map none]) ?_ 1 _ rfl; refine blk_put (cs := #[.int .i64 2, .int .i64 5, .map none]) ?_ 0 _ rfl; exact H2.out.2.2
  have hT2 : Tab W2 mb2 [(1, 2, 0, 0)] := by rw [hW2]; exact tab_put3 H2.out.1 H2.out.2.2
  clear hW2 hc_0 hc_1 hc_2 hf_0 hf_1 hf_2
  refine (learn_calls 2 5 1 1 2 1 mb2 [(1, 2, 0, 0)] (by simp) (by decide) (by decide) W2 hT2).mono ?_
  rintro e' w3 ⟨mb3, L3, code3, rfl, hl3, hT3, hb3⟩
  obtain ⟨rfl, rfl⟩ := ln_one _ _ _ _ _ _ _ _ hl3 (by omega) (by omega) (by decide) (by omega) (by simp)
  have hT3 : Tab w3 mb3 [(1, 2, 1, 1)] := by simpa [rk] using hT3
  have hB3 : Below w.heap.size w w3 := hB2.trans (hb3.mono hB2.size)
  have hx3 := blk_below hx2 hb3
  have hc_0 : w3.cell? ⟨w1.heap.size, 0, none⟩ = some (.int .i64 2) := (blk_cell hx3 0).trans rfl
  have hc_1 : w3.cell? ⟨w1.heap.size, 1, none⟩ = some (.int .i64 5) := (blk_cell hx3 1).trans rfl
  have hc_2 : w3.cell? ⟨w1.heap.size, 2, none⟩ = some (.map mb2) := (blk_cell hx3 2).trans rfl
  have hf_0 := blk_frozen hx3 0
  have hf_1 := blk_frozen hx3 1
  have hf_2 := blk_frozen hx3 2
  have H3 := Lib.hid (And.intro hT3 (And.intro hB3 hx3))
  clear hl3 hT3 hb3 hB2 hB3 hx2 hx3 hT2
  go_wp2_with fail
  refine fd_calls_W ?_
  intro W3 hW3
  have hB3 : Below w.heap.size w W3 := by rw [hW3]; exact below_set (below_set (below_set H3.out.2.1 hz1) hz1) hz1
  have hx3 : W3.heap[w1.heap.size]? = some (.cells #[.int .i64 2, .int .i64 5, .map mb3] 26) := by rw [hW3]; refine blk_put (cs := #[.int .i64 2, .int .i64 5, .map mb2]) ?_ 2 _ rfl; refine blk_put (cs := #[.int .i64 2, .int .i64 5, .map mb2]) ?_ 1 _ rfl; refine blk_put (cs := #[.int .i64 2, .int .i64 5, .map mb2]) ?_ 0 _ rfl; exact H3.out.2.2
  have hT3 : Tab W3 mb3 [(1, 2, 1, 1)] := by rw [hW3]; exact tab_put3 H3.out.1 H3.out.2.2
  clear hW3 hc_0 hc_1 hc_2 hf_0 hf_1 hf_2
  refine (look_calls 2 5 2 1 2 mb3 [(1, 2, 1, 1)] (by decide) (by decide) W3 hT3).mono ?_
  rintro e' w4 ⟨⟨r, ok, hf, hr⟩, hb4⟩
  have hrr : r = (1, 2, 1, 1) ∧ ok = true := by
    rcases hf with ⟨h1, h2, h3⟩ | ⟨_, _, h3⟩
    · simp [rk] at h2
      exact ⟨h2, h1⟩
    · exact absurd rfl (h3 (1, 2, 1, 1) (by simp))
  obtain ⟨rfl, rfl⟩ := hrr
  have he' : e' = .returned (.tuple #[.int .i64 1, .bool true]) := by
    rcases hr with ⟨_, _, h⟩ | ⟨h, _⟩
    · exact h
    · rcases h with h | h
      · cases h
      · have h : (5 : Int) ≤ wrap64 (2 - 1) := h
        unfold wrap64 at h
        omega
  subst he'
  have hB4 : Below w.heap.size w w4 := hB3.trans (hb4.mono hB3.size)
  have hx4 := blk_below hx3 hb4
  have hc_0 : w4.cell? ⟨w1.heap.size, 0, none⟩ = some (.int .i64 2) := (blk_cell hx4 0).trans rfl
  have hc_1 : w4.cell? ⟨w1.heap.size, 1, none⟩ = some (.int .i64 5) := (blk_cell hx4 1).trans rfl
  have hc_2 : w4.cell? ⟨w1.heap.size, 2, none⟩ = some (.map mb3) := (blk_cell hx4 2).trans rfl
  have hf_0 := blk_frozen hx4 0
  have hf_1 := blk_frozen hx4 1
  have hf_2 := blk_frozen hx4 2
  have H4 := Lib.hid (And.intro (hT3.below hb4) (And.intro hB4 hx4))
  clear hf hr hb4 hB3 hB4 hx3 hx4 hT3
  go_wp2_with fail
  refine (h02 _).mono ?_
  rintro e' w5 ⟨rfl, hb5⟩
  have hx5 := blk_below H4.out.2.2 hb5
  have hB5 : Below w.heap.size w w5 := H4.out.2.1.trans (hb5.mono H4.out.2.1.size)
  have H5 := Lib.hid (And.intro (H4.out.1.below hb5) hB5)
  clear hc_0 hc_1 hc_2 hf_0 hf_1 hf_2
  have hc_0 : w5.cell? ⟨w1.heap.size, 0, none⟩ = some (.int .i64 2) := (blk_cell hx5 0).trans rfl
  have hc_1 : w5.cell? ⟨w1.heap.size, 1, none⟩ = some (.int .i64 5) := (blk_cell hx5 1).trans rfl
  have hc_2 : w5.cell? ⟨w1.heap.size, 2, none⟩ = some (.map mb3) := (blk_cell hx5 2).trans rfl
  have hf_0 := blk_frozen hx5 0
  have hf_1 := blk_frozen hx5 1
  have hf_2 := blk_frozen hx5 2
  clear hx5 hB5 hb5
  go_wp2_with fail
  refine (rows_calls 2 5 mb3 [(1, 2, 1, 1)] (by simp) w5 H5.out.1).mono ?_
  rintro e' w6 ⟨v, xs, rfl, hp, _, hr6, hb6⟩
  obtain ⟨A, c, rfl, _⟩ := rows_cells hr6
  have hl : xs.length = 1 := by rw [hp.length_eq]; rfl
  rw [hl]
  have H6 := Lib.hid (H5.out.2.trans (hb6.mono H5.out.2.size))
  clear hr6 hb6 hp hl
  go_wp2_with fail
  go_ret
  exact ⟨rfl, H6.out⟩
end Go.Proofs.Ytmlenepeocginaa.Gv
