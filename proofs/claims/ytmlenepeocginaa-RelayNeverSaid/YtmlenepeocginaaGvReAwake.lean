/- Relay: the document's example. -/
import Derived.Test.YtmlenepeocginaaGvReGo
namespace Go.Proofs.Ytmlenepeocginaa.Gv
open Go.RowKit Go.Maps Go.WideElems Go.Lib Go.Proofs.YtmlenepeocginaaW.PrintWords Go.Proofs.YtmlenepeocginaaW.PrintLast Go.Proofs.YtmlenepeocginaaW.PrintMore Go.Proofs.Ytmlenepeocginaa.PRelayNever
set_option linter.unusedVariables false
set_option linter.unusedSimpArgs false
theorem law02_ok (w : World) : Calls Try.prog 20 #[] w fun e w' => e = .returned (.bool true) ∧ Below w.heap.size w w' := carousellaw02_Awake.calls 60 true w (by decide +kernel)
theorem law03_ok (w : World) : Calls Try.prog 37 #[] w fun e w' => e = .returned (.bool true) ∧ Below w.heap.size w w' := carousellaw03_Awake.calls 60 true w (by decide +kernel)
theorem law18_ok (w : World) : Calls Try.prog 38 #[] w fun e w' => e = .returned (.bool true) ∧ Below w.heap.size w w' := carousellaw18_Awake.calls 60 true w (by decide +kernel)
theorem go_first {L' : List Rw} {xs : List Int} {all : Bool} {code : Int} (h : GOR 2 5 0 false false 0 2 4 1 [] L' xs all code) : xs = [1, 2] ∧ all = true ∧ code = 0 := by
  rcases h with h | h
  · exfalso
    rcases h.2.2.2.2 with h | h | h
    · omega
    · omega
    · revert h; decide
  · obtain ⟨h0, _, _, _, ⟨c1, hLN⟩, p, kn, ⟨r, ok, hf, hr⟩, h⟩ := h
    have hL := (ln_one _ _ _ _ _ _ _ _ hLN (by omega) (by omega) (by decide) (by omega) (by simp)).2
    have hno : kn = false := by
      rcases hr with ⟨rfl, _, _, _⟩ | ⟨_, _, e⟩
      · rcases hf with ⟨_, h1, h2⟩ | ⟨e, _⟩
        · rw [hL] at h1
          simp at h1
          rw [h1] at h2
          exact absurd h2 (by decide)
        · cases e
      · exact e
    rcases h with ⟨_, h1, h2⟩ | ⟨_, h1, _⟩
    · exact ⟨by rw [h2]; decide, h1, h0⟩
    · rw [hno] at h1; cases h1
theorem ints_ok (A0 : Option Addr) (c0 : Nat) (A1 : Option Addr) (c1 : Nat) (w : World) (h0 : Kd.C (Kd.int .i64) w A0 2 [1, 2]) (hc0 : 2 ≤ c0) (h1 : Kd.C (Kd.int .i64) w A1 2 [1, 2]) (hc1 : 2 ≤ c1) : Calls Try.prog 39 #[.slice A0 2 c0, .slice A1 2 c1] w fun e w' => e = .returned (.bool true) ∧ Below w.heap.size w w' := by
  refine (carousellaw19_ints.calls 5 A0 c0 [1, 2] A1 c1 [1, 2] true w h0 hc0 h1 hc1 (by decide +kernel)).mono ?_
  rintro e w' ⟨h, n, rfl⟩
  exact ⟨h, pw_below_drewN (Below.refl _ _) n⟩
set_option maxHeartbeats 16000000 in
set_option maxRecDepth 100000 in
theorem awake19_calls (w : World) : Calls Try.prog 17 #[] w fun e w' => e = .returned (.bool true) ∧ Below w.heap.size w w' := by
  go_enter Try.func17, Try.ntmps17
  go_wp2_with fail
  refine (new_calls 2 5 w).mono ?_
  rintro e' w1 ⟨h, hb1⟩
  rcases h with ⟨_, rfl⟩ | ⟨hn, _⟩
  rotate_left
  · exact absurd (by unfold newOk; omega) hn
  have H1 := Lib.hid hb1
  clear hb1
  go_wp2_with fail
  refine fd_calls_W ?_
  intro W1 hW1
  have hB1 : Below w.heap.size w W1 := by rw [hW1]; repeat (first | exact H1.out | apply below_alloc | apply below_drew1)
  clear hW1
  refine (go_calls 2 5 0 false false 0 2 4 0 1 2048 false ⟨#[]⟩ none [] (by simp) (by decide) (by decide) (by decide) W1 (.inl ⟨rfl, rfl⟩)).mono ?_
  rintro e' w2 ⟨mb', L', v, xs, all, code, rfl, hg, hT2, hI, hb2⟩
  obtain ⟨rfl, rfl, rfl⟩ := go_first hg
  obtain ⟨A2, c2, rfl, hc2, hI⟩ := hI
  have H2 := Lib.hid (And.intro (hB1.trans (hb2.mono hB1.size)) hI)
  clear hg hT2 hI hb2 hB1
  go_wp2_with fail
  refine (law03_ok _).mono ?_
  rintro e' w3 ⟨rfl, hb3⟩
  have hb3' : Below w2.heap.size w2 w3 := (below_alloc (Below.refl w2.heap.size w2) _).trans (hb3.mono (by simp))
  have H3 := Lib.hid hb3'
  clear hb3 hb3'
  go_wp2_with fail
  refine fd_calls_W ?_
  intro W4 hW4
  have hB4 : Below w2.heap.size w2 W4 := by rw [hW4]; repeat (first | exact H3.out | apply below_alloc | apply below_drew1)
  clear hW4
  refine (awake_calls law02_ok W4).mono ?_
  rintro e' w5 ⟨rfl, hb5⟩
  have H5 := Lib.hid (hB4.trans (hb5.mono hB4.size))
  clear hb5 hB4
  go_wp2_with fail
  refine fd_calls_W ?_
  intro W6 hW6
  have hB6 : Below w2.heap.size w2 W6 := by rw [hW6]; repeat (first | exact H5.out | apply below_alloc | apply below_drew1)
  clear hW6
  refine (law18_ok W6).mono ?_
  rintro e' w7 ⟨rfl, hb7⟩
  have H7 := Lib.hid (hB6.trans (hb7.mono hB6.size))
  clear hb7 hB6
  go_wp2_with fail
  refine fd_calls_W ?_
  intro W8 hW8
  have hB8 : Below w7.heap.size w7 W8 := by rw [hW8]; repeat (first | exact Below.refl _ _ | apply below_alloc | apply below_drew1)
  have hL8 : W8.heap[w7.heap.size]? = some (.cells #[.int .i64 1, .int .i64 2] 3) := by rw [hW8]; first | exact blk_new _ _ | exact blk_newk _ (by simp)
  clear hW8
  have hB28 : Below w2.heap.size w2 W8 := H7.out.trans (hB8.mono H7.out.size)
  have hc2' : 2 ≤ c2 := by simpa using hc2
  refine (ints_ok A2 c2 _ 2 W8 (Kd.C_below H2.out.2 hB28) hc2' (ints_mk [1, 2] (by simp) hL8) (Nat.le_refl _)).mono ?_
  rintro e' w9 ⟨rfl, hb9⟩
  have H9 := Lib.hid (H2.out.1.trans ((hB28.trans (hb9.mono hB28.size)).mono H2.out.1.size))
  clear hb9 hB28 hB8 hL8
  go_wp2_with fail
  go_ret
  exact ⟨rfl, H9.out⟩
end Go.Proofs.Ytmlenepeocginaa.Gv
