/- The law FlushOnce holds: behind whatever was heard the same message, again at that port, or then at the other one, empties nothing: for every input. -/
import Derived.Test.YtbciaapkahfcaaaPFlushOncex9
-- merged out of the texts of this work that it leads to

namespace Go.Proofs.Ytbciaapkahfcaaa.Pure
open Go.RowKit Go.Proofs.Ytbciaapkahfcaaa.PFlushOnce Go.Proofs.YtbciaapkahfcaaaW.PrintWords Go.Proofs.YtbciaapkahfcaaaW.PrintLast Go.Proofs.YtbciaapkahfcaaaW.PrintMore
set_option linter.unusedVariables false
set_option linter.unusedSimpArgs false

theorem fo_awake : Ev (fun k => carousellaw14_Awake.f k) true :=
  Ev.of carousellaw14_Awake.mono (k := 60) (by decide +kernel)

/-- Whatever is heard, something is answered. -/
theorem fo_some (s0 e0 : Bool) (n0 : Int) (s1 e1 : Bool) (n1 port rq : Int) (bl kp ea : Bool) (nd : Int) : ∃ r, flush_Pairs_Hear.f s0 e0 n0 s1 e1 n1 port rq bl kp ea nd = some r := by
  unfold flush_Pairs_Hear.f
  by_cases h0 : port = 0
  · rw [if_pos h0]; exact ⟨_, rfl⟩
  · rw [if_neg h0]
    by_cases h1 : port = 1
    · rw [if_pos h1]; exact ⟨_, rfl⟩
    · rw [if_neg h1]; exact ⟨_, rfl⟩

theorem one_w {s e : Bool} {n : Int} {s' e' : Bool} {n' : Int} {rq : Int} {bl kp ea : Bool} {nd : Int} (h : (rq == 0 && !bl) = true) : flush_Pairs_Hear.one s e n s' e' n' rq bl kp ea nd = ((false, false, 0), false) := by
  unfold flush_Pairs_Hear.one; rw [if_pos h]
theorem one_s {s e : Bool} {n : Int} {s' e' : Bool} {n' : Int} {rq : Int} {bl kp ea : Bool} {nd : Int} (h : ¬ (rq == 0 && !bl) = true) (hE : (s && (e == ea && n == nd)) = true) : flush_Pairs_Hear.one s e n s' e' n' rq bl kp ea nd = ((s, e, n), false) := by
  unfold flush_Pairs_Hear.one; rw [if_neg h, if_pos hE]
theorem one_d {s e : Bool} {n : Int} {s' e' : Bool} {n' : Int} {rq : Int} {bl kp ea : Bool} {nd : Int} (h : ¬ (rq == 0 && !bl) = true) (hE : ¬ (s && (e == ea && n == nd)) = true) : flush_Pairs_Hear.one s e n s' e' n' rq bl kp ea nd = ((true, ea, nd), if kp = true then false else (!s' || (!e' == ea || !n' == nd))) := by
  unfold flush_Pairs_Hear.one; rw [if_neg h, if_neg hE]
/-- What was heard at a port is not heard there again. -/
theorem one_again (s e : Bool) (n : Int) (s' e' : Bool) (n' : Int) (rq : Int) (bl kp ea : Bool) (nd : Int) : ∃ s2 e2 n2 b, flush_Pairs_Hear.one s e n s' e' n' rq bl kp ea nd = ((s2, e2, n2), b) ∧ (flush_Pairs_Hear.one s2 e2 n2 s' e' n' rq bl kp ea nd).2 = false ∧ (flush_Pairs_Hear.one s' e' n' s2 e2 n2 rq bl kp ea nd).2 = false := by
  by_cases h : (rq == 0 && !bl) = true
  · exact ⟨_, _, _, _, one_w h, by rw [one_w h], by rw [one_w h]⟩
  · by_cases hE : (s && (e == ea && n == nd)) = true
    · refine ⟨_, _, _, _, one_s h hE, by rw [one_s h hE], ?_⟩
      by_cases hF : (s' && (e' == ea && n' == nd)) = true
      · rw [one_s h hF]
      · rw [one_d h hF]
        simp only [Bool.and_eq_true, beq_iff_eq] at hE
        obtain ⟨rfl, rfl, rfl⟩ := hE
        simp
    · refine ⟨_, _, _, _, one_d h hE, by rw [one_s h (by simp)], ?_⟩
      by_cases hF : (s' && (e' == ea && n' == nd)) = true
      · rw [one_s h hF]
      · rw [one_d h hF]; simp

theorem fo_w1 : wrap64 (1 - 0) = 1 := by unfold wrap64; omega
theorem fo_w0 : wrap64 (1 - 1) = 0 := by unfold wrap64; omega
theorem fo_j1 (port : Int) (hp : port = 0 ∨ port = 1) (rq : Int) (bl kp ea : Bool) (nd : Int) (s0 e0 : Bool) (n0 : Int) (s1 e1 : Bool) (n1 : Int) : Ev (fun k => carousellaw14_FlushOnce.j1 k port rq bl kp ea nd s0 e0 n0 s1 e1 n1) true := by
  refine Ev.step (f := fun k => carousellaw14_FlushOnce.j1 (k + 1) port rq bl kp ea nd s0 e0 n0 s1 e1 n1) (fun k => rfl) ?_
  simp only [carousellaw14_FlushOnce.j1]
  rcases hp with rfl | rfl
  · obtain ⟨s2, e2, n2, b, h1, h2, h3⟩ := one_again s0 e0 n0 s1 e1 n1 rq bl kp ea nd
    simp only [fo_w1, flush_Pairs_Hear.f, if_true, h1, Option.bind_some, h2, show ¬ ((1 : Int) = 0) from by decide, if_false, h3]
    refine Ev.bind fo_awake ?_
    exact Ev.congr (fun k => by simp) (Ev.now _)
  · obtain ⟨s2, e2, n2, b, h1, h2, h3⟩ := one_again s1 e1 n1 s0 e0 n0 rq bl kp ea nd
    simp only [fo_w0, flush_Pairs_Hear.f, if_true, h1, Option.bind_some, h2, show ¬ ((1 : Int) = 0) from by decide, if_false, h3]
    refine Ev.bind fo_awake ?_
    exact Ev.congr (fun k => by simp) (Ev.now _)

theorem fo_loop (l : List S37) (hl : l.length ≤ 100) (rq : Int) (bl kp ea : Bool) (nd : Int) (a2 : Bool) (m : Nat) : ∀ i : Nat, l.length - i = m → i ≤ l.length → ∀ (s0 e0 : Bool) (n0 : Int) (s1 e1 : Bool) (n1 : Int),
    Ev (fun k => carousellaw14_FlushOnce.l0 k a2 l (l.length : Int) (i : Int) rq bl kp ea nd s0 e0 n0 s1 e1 n1) true := by
  induction m with
  | zero =>
    intro i hi hi2 s0 e0 n0 s1 e1 n1
    refine Ev.step (f := fun k => carousellaw14_FlushOnce.l0 (k + 1) a2 l (l.length : Int) (i : Int) rq bl kp ea nd s0 e0 n0 s1 e1 n1) (fun k => rfl) ?_
    simp only [carousellaw14_FlushOnce.l0, if_neg (show ¬ (i : Int) < (l.length : Int) from by omega)]
    cases a2
    · simp only [Bool.false_eq_true, if_false]; exact fo_j1 0 (Or.inl rfl) _ _ _ _ _ _ _ _ _ _ _
    · simp only [if_true]; exact fo_j1 1 (Or.inr rfl) _ _ _ _ _ _ _ _ _ _ _
  | succ m ih =>
    intro i hi hi2 s0 e0 n0 s1 e1 n1
    refine Ev.step (f := fun k => carousellaw14_FlushOnce.l0 (k + 1) a2 l (l.length : Int) (i : Int) rq bl kp ea nd s0 e0 n0 s1 e1 n1) (fun k => rfl) ?_
    obtain ⟨r, hr⟩ := fo_some s0 e0 n0 s1 e1 n1 ((rd_T37 l (i : Int)).f0) ((rd_T37 l (i : Int)).f1.f0) ((rd_T37 l (i : Int)).f1.f1) ((rd_T37 l (i : Int)).f1.f2) ((rd_T37 l (i : Int)).f1.f3) ((rd_T37 l (i : Int)).f1.f4)
    simp only [carousellaw14_FlushOnce.l0, if_pos (show (i : Int) < (l.length : Int) from by omega), if_pos (show (0 : Int) ≤ (i : Int) from by omega), hr, Option.bind_some]
    rw [show wrap64 ((i : Int) + 1) = ((i + 1 : Nat) : Int) from by unfold wrap64; omega]
    exact ih (i + 1) (by omega) (by omega) _ _ _ _ _ _

theorem FlushOnce : carousellaw14_FlushOnce.Pure := by
  intro l rq bl kp ea nd a2 _ _ _ _ _
  refine Ev.rounds ?_
  unfold carousellaw14_FlushOnce.f
  by_cases hl : (l.length : Int) > 100
  · simp only [if_pos hl]
    refine Ev.bind fo_awake ?_
    exact Ev.now _
  · simp only [if_neg hl]
    exact fo_loop l (by omega) rq bl kp ea nd a2 _ 0 rfl (by omega) _ _ _ _ _ _
end Go.Proofs.Ytbciaapkahfcaaa.Pure
