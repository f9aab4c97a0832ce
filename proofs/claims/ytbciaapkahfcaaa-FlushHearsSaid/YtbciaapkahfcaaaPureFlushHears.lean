/- The law FlushHears holds: whatever messages come, at whatever ports, the pairs, and whether tables are emptied, are the document's, at each step: for every input. -/
import Derived.Test.YtbciaapkahfcaaaPFlushHearsx12
-- merged out of the texts of this work that it leads to

namespace Go.Proofs.Ytbciaapkahfcaaa.Pure
open Go.RowKit Go.Proofs.Ytbciaapkahfcaaa.PFlushHears Go.Proofs.YtbciaapkahfcaaaW.PrintWords Go.Proofs.YtbciaapkahfcaaaW.PrintLast Go.Proofs.YtbciaapkahfcaaaW.PrintMore
set_option linter.unusedVariables false
set_option linter.unusedSimpArgs false

theorem fh_awake : Ev (fun k => carousellaw14_Awake.f k) true :=
  Ev.of carousellaw14_Awake.mono (k := 60) (by decide +kernel)

theorem fh_one (s e : Bool) (n : Int) (s' e' : Bool) (n' : Int) (rq : Int) (bl kp ea : Bool) (nd : Int) : carouselref14_Hear.one s e n s' e' n' rq bl kp ea nd = flush_Pairs_Hear.one s e n s' e' n' rq bl kp ea nd := by
  unfold carouselref14_Hear.one flush_Pairs_Hear.one
  rw [Bool.not_and, Bool.not_and]
/-- The program's and the document's answers are one. -/
theorem fh_same (s0 e0 : Bool) (n0 : Int) (s1 e1 : Bool) (n1 port rq : Int) (bl kp ea : Bool) (nd : Int) : carouselref14_Hear.f s0 e0 n0 s1 e1 n1 port rq bl kp ea nd = flush_Pairs_Hear.f s0 e0 n0 s1 e1 n1 port rq bl kp ea nd := by
  unfold carouselref14_Hear.f flush_Pairs_Hear.f
  rw [fh_one, fh_one]
/-- Whatever is heard, something is answered. -/
theorem fh_some (s0 e0 : Bool) (n0 : Int) (s1 e1 : Bool) (n1 port rq : Int) (bl kp ea : Bool) (nd : Int) : ∃ r, flush_Pairs_Hear.f s0 e0 n0 s1 e1 n1 port rq bl kp ea nd = some r := by
  unfold flush_Pairs_Hear.f
  by_cases h0 : port = 0
  · rw [if_pos h0]; exact ⟨_, rfl⟩
  · rw [if_neg h0]
    by_cases h1 : port = 1
    · rw [if_pos h1]; exact ⟨_, rfl⟩
    · rw [if_neg h1]; exact ⟨_, rfl⟩

theorem fh_loop (l : List S37) (hl : l.length ≤ 100) (m : Nat) : ∀ i : Nat, l.length - i = m → i ≤ l.length → ∀ (s0 e0 : Bool) (n0 : Int) (s1 e1 : Bool) (n1 : Int),
    Ev (fun k => carousellaw14_FlushHears.l0 k l (l.length : Int) (i : Int) s0 e0 n0 s1 e1 n1 s0 e0 n0 s1 e1 n1) true := by
  induction m with
  | zero =>
    intro i hi hi2 s0 e0 n0 s1 e1 n1
    refine Ev.step (f := fun k => carousellaw14_FlushHears.l0 (k + 1) l (l.length : Int) (i : Int) s0 e0 n0 s1 e1 n1 s0 e0 n0 s1 e1 n1) (fun k => rfl) ?_
    simp only [carousellaw14_FlushHears.l0, if_neg (show ¬ (i : Int) < (l.length : Int) from by omega)]
    exact Ev.bind fh_awake (Ev.now _)
  | succ m ih =>
    intro i hi hi2 s0 e0 n0 s1 e1 n1
    refine Ev.step (f := fun k => carousellaw14_FlushHears.l0 (k + 1) l (l.length : Int) (i : Int) s0 e0 n0 s1 e1 n1 s0 e0 n0 s1 e1 n1) (fun k => rfl) ?_
    obtain ⟨r, hr⟩ := fh_some s0 e0 n0 s1 e1 n1 ((rd_T37 l (i : Int)).f0) ((rd_T37 l (i : Int)).f1.f0) ((rd_T37 l (i : Int)).f1.f1) ((rd_T37 l (i : Int)).f1.f2) ((rd_T37 l (i : Int)).f1.f3) ((rd_T37 l (i : Int)).f1.f4)
    simp only [carousellaw14_FlushHears.l0, if_pos (show (i : Int) < (l.length : Int) from by omega), if_pos (show (0 : Int) ≤ (i : Int) from by omega), carousellaw05_Of.f, fh_same, hr, Option.bind_some, carousellaw14_Of.f, bne_self_eq_false, beq_self_eq_true, Bool.not_true, Bool.or_self, Bool.false_eq_true, if_false]
    rw [show wrap64 ((i : Int) + 1) = ((i + 1 : Nat) : Int) from by unfold wrap64; omega]
    exact ih (i + 1) (by omega) (by omega) _ _ _ _ _ _

theorem FlushHears : carousellaw14_FlushHears.Pure := by
  intro l _ _ _
  refine Ev.rounds ?_
  unfold carousellaw14_FlushHears.f
  by_cases hl : (l.length : Int) > 100
  · simp only [if_pos hl]
    exact Ev.bind fh_awake (Ev.now _)
  · simp only [if_neg hl]
    exact fh_loop l (by omega) _ 0 rfl (by omega) _ _ _ _ _ _
end Go.Proofs.Ytbciaapkahfcaaa.Pure
