/- The law BurstPlays holds: whatever is begun, ended and ticked, whenever, a burst is, and speaks, as the document says, at each step: for every input. -/
import Derived.Test.YtmdaaphjndjakaaPBurstPlaysx5
import Derived.Test.YtmdaaphjndjakaaPBurstPlaysx3
-- merged out of the texts of this work that it leads to

namespace Go.Proofs.Ytmdaaphjndjakaa.Pure
open Go.RowKit Go.Proofs.Ytmdaaphjndjakaa.PBurstPlays Go.Proofs.YtmdaaphjndjakaaW.PrintWords Go.Proofs.YtmdaaphjndjakaaW.PrintLast Go.Proofs.YtmdaaphjndjakaaW.PrintMore

set_option linter.unusedVariables false
set_option linter.unusedSimpArgs false

/-- What a tick makes of a burst: the plain word. -/
def bpTick (g p n : Int) (on : Bool) (s now : Int) : Int × Int × Int × Bool × Int × Bool :=
  if on = true ∧ n ≤ now then (g, p, (if s < 2 then wrap64 (now + g) else wrap64 (now + p)), true, (if s < 3 then s + 1 else s), true) else (g, p, n, on, s, false)

theorem bp_w1 {s : Int} (h0 : 0 ≤ s) (h1 : s ≤ 3) : wrap64 (s + 1) = s + 1 := by unfold wrap64; omega

theorem bp_tick (k : Nat) (hk : 0 < k) (g p n : Int) (on : Bool) (s now : Int) (h0 : 0 ≤ s) (h1 : s ≤ 3) : burst_Burst_Tick.f k g p n on s now = some (bpTick g p n on s now) := by
  obtain ⟨k, rfl⟩ : ∃ m, k = m + 1 := ⟨k - 1, by omega⟩
  unfold burst_Burst_Tick.f bpTick
  cases on with
  | false => simp [burst_Burst_Tick.j0]
  | true =>
    simp only [burst_Burst_Tick.j0, if_true, true_and]
    by_cases h : n ≤ now
    · rw [if_neg (by simp; omega), if_pos h, bp_w1 h0 h1]
      unfold mn
      by_cases a : s = 0
      · subst a; simp
      · rw [if_neg a]
        by_cases b : s = 1
        · subst b; simp
        · rw [if_neg b, if_neg (show ¬ s < 2 by omega)]
          by_cases c : s < 3
          · rw [if_pos c, if_neg (by omega)]
          · rw [if_neg c, if_pos (by omega)]
            have : s = 3 := by omega
            rw [this]
    · rw [if_pos (by simp; omega), if_neg h]

theorem bp_ref (k : Nat) (hk : 1 < k) (g p n : Int) (on : Bool) (s now : Int) (h0 : 0 ≤ s) (h1 : s ≤ 3) : carouselref15_Tick.f k g p n on s now = some (bpTick g p n on s now) := by
  obtain ⟨k, rfl⟩ : ∃ m, k = m + 1 := ⟨k - 1, by omega⟩
  unfold carouselref15_Tick.f bpTick
  cases on with
  | false => simp [carouselref15_Tick.j0]
  | true =>
    simp only [carouselref15_Tick.j0, if_true, true_and, bp_w1 h0 h1]
    by_cases h : n ≤ now
    · rw [if_neg (by simp; omega), if_pos h]
      by_cases a : s < 2
      · rw [if_pos a, if_pos a, if_pos (show s < 3 by omega)]
        cases k with
        | zero => omega
        | succ k => simp only [carouselref15_Tick.j1]; rw [if_pos (show s < 3 by omega), bp_w1 h0 h1]
      · rw [if_neg a, if_neg a]
        by_cases c : s < 3
        · rw [if_pos c]
          cases k with
          | zero => omega
          | succ k => simp only [carouselref15_Tick.j1]; rw [if_pos c, bp_w1 h0 h1]
        · rw [if_neg c]
          cases k with
          | zero => omega
          | succ k => simp only [carouselref15_Tick.j1]; rw [if_neg c]
    · rw [if_pos (by simp; omega), if_neg h]

theorem bp_said (g p n : Int) (on : Bool) (s now : Int) (h0 : 0 ≤ s) (h1 : s ≤ 3) : 0 ≤ (bpTick g p n on s now).2.2.2.2.1 ∧ (bpTick g p n on s now).2.2.2.2.1 ≤ 3 := by
  unfold bpTick
  split
  · simp only
    split <;> omega
  · exact ⟨h0, h1⟩

theorem bp_awake : carousellaw15_Awake.f 5 = some true := by decide +kernel

theorem bp_j2 (k : Nat) (l : List S61) (x : Bool) (i now g p n : Int) (on : Bool) (s : Int) :
    carousellaw15_BurstPlays.j2 (k + 1) 0 now x x l (l.length : Int) i g p n on s g p n on s = carousellaw15_BurstPlays.l0 k 0 now l (l.length : Int) (wrap64 (i + 1)) g p n on s g p n on s := by
  rw [carousellaw15_BurstPlays.j2, if_neg (by simp), if_neg (by simp)]
theorem bp_loop (l : List S61) (d : Nat) : ∀ (k : Nat) (i now g p n : Int) (on : Bool) (s : Int), 0 ≤ i → i ≤ 1000 → ((l.length : Int) - i).toNat = d → l.length ≤ 1000 → 2 * d + 8 < k → 0 ≤ s → s ≤ 3 →
    carousellaw15_BurstPlays.l0 k 0 now l (l.length : Int) i g p n on s g p n on s = some true := by
  induction d with
  | zero =>
    intro k i now g p n on s hi hi2 hd hl hk h0 h1
    obtain ⟨k, rfl⟩ : ∃ m, k = m + 1 := ⟨k - 1, by omega⟩
    rw [carousellaw15_BurstPlays.l0]
    rw [if_neg (by omega), at_rounds carousellaw15_Awake.mono (show 5 ≤ k by omega) bp_awake]
    simp
  | succ d ih =>
    intro k i now g p n on s hi hi2 hd hl hk h0 h1
    obtain ⟨k, rfl⟩ : ∃ m, k = m + 2 := ⟨k - 2, by omega⟩
    have e1 : wrap64 (i + 1) = i + 1 := by unfold wrap64; omega
    have go : ∀ now' g' p' n' on' s', 0 ≤ s' → s' ≤ 3 → carousellaw15_BurstPlays.l0 k 0 now' l (l.length : Int) (i + 1) g' p' n' on' s' g' p' n' on' s' = some true :=
      fun now' g' p' n' on' s' a b => ih k (i + 1) now' g' p' n' on' s' (by omega) (by omega) (by omega) hl (by omega) a b
    rw [carousellaw15_BurstPlays.l0]
    rw [if_pos (by omega), if_pos hi, if_pos (by omega)]
    generalize wrap64 (now + wrap64 (rd_T61 l i).f1) = now'
    by_cases c0 : (rd_T61 l i).f0 = 0
    · rw [if_pos c0, bp_tick (k + 1) (by omega) g p n on s now' h0 h1]
      simp only [Option.bind_some]
      rw [bp_ref (k + 1) (by omega) g p n on s now' h0 h1]
      simp only [Option.bind_some]
      have hs := bp_said g p n on s now' h0 h1
      generalize bpTick g p n on s now' = t at hs ⊢
      obtain ⟨t1, t2, t3, t4, t5, t6⟩ := t
      simp only at hs ⊢
      rw [bp_j2, e1]
      exact go _ _ _ _ _ _ hs.1 hs.2
    · rw [if_neg c0]
      by_cases c1 : (rd_T61 l i).f0 = 1
      · rw [if_pos c1]
        simp only [burst_Burst_Begin.f, carouselref15_Begin.f, Option.bind_some]
        rw [bp_j2, e1]
        exact go _ _ _ _ _ _ (by omega) (by omega)
      · rw [if_neg c1]
        by_cases c2 : (rd_T61 l i).f0 = 2
        · rw [if_pos c2]
          simp only [burst_Burst_End.f, carouselref15_End.f, Option.bind_some]
          rw [bp_j2, e1]
          exact go _ _ _ _ _ _ (by omega) (by omega)
        · rw [if_neg c2, bp_j2, e1]
          exact go _ _ _ _ _ _ h0 h1

theorem bp_new_ok (a b : Int) (h1 : 1 ≤ a) (h2 : a ≤ 1048576) (h3 : 1 ≤ b) (h4 : b ≤ 1048576) : burst_New.f a b = some (a, b, 0, false, 0, 0) := by
  unfold burst_New.f burst_may.f
  rw [if_pos h1, if_pos h3]
  simp [h2, h4]
theorem bp_new_no (a b : Int) (h : ¬ (1 ≤ a ∧ a ≤ 1048576 ∧ 1 ≤ b ∧ b ≤ 1048576)) : burst_New.f a b = some (0, 0, 0, false, 0, 4) := by
  unfold burst_New.f burst_may.f
  by_cases h1 : a ≥ 1
  · rw [if_pos h1]
    by_cases h2 : a ≤ 1048576
    · simp only [Option.bind_some, h2, decide_true, if_true]
      by_cases h3 : b ≥ 1
      · rw [if_pos h3]
        have h4 : ¬ b ≤ 1048576 := fun h4 => h ⟨h1, h2, h3, h4⟩
        simp [h4]
      · rw [if_neg h3]; simp
    · simp [h2]
  · rw [if_neg h1]; simp

theorem bp_j0_no (k : Nat) (a b : Int) (l : List S61) : carousellaw15_BurstPlays.j0 (k + 6) a b l 4 true 0 0 0 false 0 = some true := by
  rw [carousellaw15_BurstPlays.j0]
  rw [if_pos rfl, at_rounds carousellaw15_Awake.mono (show 5 ≤ k + 5 by omega) bp_awake]
  simp

theorem BurstPlays : carousellaw15_BurstPlays.Pure := by
  intro a b l _ _ _ _ _
  refine ⟨1200, ?_⟩
  unfold carousellaw15_BurstPlays.f
  by_cases hl : (l.length : Int) > 100
  · rw [if_pos hl, at_rounds carousellaw15_Awake.mono (show 5 ≤ 1200 by omega) bp_awake]; rfl
  · rw [if_neg hl]
    by_cases h : 1 ≤ a ∧ a ≤ 1048576 ∧ 1 ≤ b ∧ b ≤ 1048576
    · obtain ⟨h1, h2, h3, h4⟩ := h
      rw [bp_new_ok a b h1 h2 h3 h4]
      simp only [Option.bind_some]
      rw [if_neg (by omega), if_neg (by omega), if_neg (by omega), show decide (b > 1048576) = false from by simp; omega]
      rw [carousellaw15_BurstPlays.j0, if_neg (by simp)]
      exact bp_loop l _ 1199 0 0 a b 0 false 0 (by omega) (by omega) rfl (by omega) (by omega) (by omega) (by omega)
    · rw [bp_new_no a b h]
      simp only [Option.bind_some]
      have e := bp_j0_no 1194 a b l
      by_cases c1 : a < 1
      · rw [if_pos c1]; exact e
      · rw [if_neg c1]
        by_cases c2 : a > 1048576
        · rw [if_pos c2]; exact e
        · rw [if_neg c2]
          by_cases c3 : b < 1
          · rw [if_pos c3]; exact e
          · rw [if_neg c3, show decide (b > 1048576) = true from by simp; omega]; exact e

end Go.Proofs.Ytmdaaphjndjakaa.Pure
