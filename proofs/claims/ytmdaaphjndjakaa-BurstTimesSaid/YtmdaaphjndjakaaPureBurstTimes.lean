/- The law BurstTimes holds: ticked at each tick a burst speaks at its begin, one and two gaps behind it, and then each period: for every input. -/
import Derived.Test.YtmdaaphjndjakaaPBurstTimesx2
namespace Go.Proofs.Ytmdaaphjndjakaa.Pure
open Go.RowKit Go.Proofs.Ytmdaaphjndjakaa.PBurstTimes Go.Proofs.YtmdaaphjndjakaaW.PrintWords Go.Proofs.YtmdaaphjndjakaaW.PrintLast Go.Proofs.YtmdaaphjndjakaaW.PrintMore

theorem bt_wrap {n : Int} (h0 : -9223372036854775808 ≤ n) (h1 : n ≤ 9223372036854775807) : wrap64 n = n := by unfold wrap64; omega

theorem bt_u8 {a : Int} (h : (Lit.int .u8 a).wf = true) : 0 ≤ a ∧ a ≤ 255 := by
  have h' : IntKind.u8.min ≤ a ∧ a ≤ IntKind.u8.max := by simpa [Lit.wf] using h
  exact h'
theorem bt_u16 {a : Int} (h : (Lit.int .u16 a).wf = true) : 0 ≤ a ∧ a ≤ 65535 := by
  have h' : IntKind.u16.min ≤ a ∧ a ≤ IntKind.u16.max := by simpa [Lit.wf] using h
  exact h'

/-- What a burst that is on does at a tick. -/
theorem bt_tick (k : Nat) (hk : 0 < k) (g p n s now : Int) :
    burst_Burst_Tick.f k g p n true s now = if n > now then some (g, p, n, true, s, false) else
      if s = 0 then some (g, p, wrap64 (now + g), true, mn (wrap64 (s + 1)) 3, true) else if s = 1 then some (g, p, wrap64 (now + g), true, mn (wrap64 (s + 1)) 3, true) else some (g, p, wrap64 (now + p), true, mn (wrap64 (s + 1)) 3, true) := by
  obtain ⟨k, rfl⟩ : ∃ m, k = m + 1 := ⟨k - 1, by omega⟩
  unfold burst_Burst_Tick.f
  simp only [burst_Burst_Tick.j0, if_true]
  by_cases h : n > now
  · rw [if_pos h, if_pos (by simpa using h)]
  · rw [if_neg h, if_neg (by simpa using h)]

/-- Where a burst stands at tick i behind its begin: N is when it speaks next, s how often it has. -/
def BtInv (g p i N s : Int) : Prop :=
  (s = 0 ∧ i = 0 ∧ N = 0) ∨ (s = 1 ∧ 0 < i ∧ i ≤ g ∧ N = g) ∨ (s = 2 ∧ g < i ∧ i ≤ 2 * g ∧ N = 2 * g) ∨ (s = 3 ∧ 2 * g < i ∧ i ≤ N ∧ N - p < i ∧ ∃ m : Int, N = 2 * g + p * m)

/-- Does the document want it to speak at tick i? -/
def btWant (g p i : Int) : Bool := decide (i = 0 ∨ i = g ∨ i = 2 * g ∨ (2 * g < i ∧ Int.tmod (i - 2 * g) p = 0))

theorem bt_mod {g p i N m : Int} (hp : 0 < p) (h1 : 2 * g < i) (h2 : i ≤ N) (h3 : N - p < i) (hN : N = 2 * g + p * m) : (Int.tmod (i - 2 * g) p = 0) ↔ i = N := by
  rw [Int.tmod_eq_emod_of_nonneg (by omega)]
  constructor
  · intro h
    obtain ⟨q, hq⟩ := Int.dvd_of_emod_eq_zero h
    have e1 : i = 2 * g + p * q := by omega
    have e2 : p * m - p * q < p := by omega
    have e3 : 0 ≤ p * m - p * q := by omega
    rw [← Int.mul_sub] at e2 e3
    have : m - q = 0 := by
      by_cases h1 : m - q ≥ 1
      · have := Int.mul_le_mul_of_nonneg_left h1 (Int.le_of_lt hp); omega
      · by_cases h2 : m - q ≤ -1
        · have := Int.mul_le_mul_of_nonneg_left h2 (Int.le_of_lt hp); omega
        · omega
    have : m = q := by omega
    subst this; omega
  · intro h
    subst h
    rw [hN, show 2 * g + p * m - 2 * g = p * m from by omega]
    exact Int.mul_emod_right p m

theorem bt_speaks {g p i N s : Int} (hg : 1 ≤ g) (hp : 1 ≤ p) (h : BtInv g p i N s) : btWant g p i = decide (i = N) := by
  unfold btWant
  rw [Bool.eq_iff_iff]; simp only [decide_eq_true_eq]
  rcases h with ⟨_, h1, h2⟩ | ⟨_, h1, h2, h3⟩ | ⟨_, h1, h2, h3⟩ | ⟨_, h1, h2, h3, m, hm⟩
  · omega
  · omega
  · omega
  · rw [bt_mod (by omega) h1 h2 h3 hm]; omega

theorem bt_awake : carousellaw15_Awake.f 3 = some true := by decide +kernel

/-- One round: the burst behind tick i. -/
theorem bt_next {g p i N s : Int} (hg : 1 ≤ g) (hp : 1 ≤ p) (h : BtInv g p i N s) (hi : i = N) : BtInv g p (i + 1) (if s = 0 then i + g else if s = 1 then i + g else i + p) (mn (wrap64 (s + 1)) 3) := by
  unfold BtInv
  rcases h with ⟨hs, h1, h2⟩ | ⟨hs, h1, h2, h3⟩ | ⟨hs, h1, h2, h3⟩ | ⟨hs, h1, h2, h3, m, hm⟩
  · subst hs; right; left; rw [show mn (wrap64 (0 + 1)) 3 = 1 from by decide +kernel]; simp; omega
  · subst hs; right; right; left; rw [show mn (wrap64 (1 + 1)) 3 = 2 from by decide +kernel]; simp; omega
  · subst hs; right; right; right; rw [show mn (wrap64 (2 + 1)) 3 = 3 from by decide +kernel]; simp
    exact ⟨by omega, by omega, by omega, 1, by omega⟩
  · subst hs; right; right; right; rw [show mn (wrap64 (3 + 1)) 3 = 3 from by decide +kernel]; simp
    exact ⟨by omega, by omega, by omega, m + 1, by rw [Int.mul_add]; omega⟩

theorem bt_stays {g p i N s : Int} (hp : 1 ≤ p) (h : BtInv g p i N s) (hi : i ≠ N) : BtInv g p (i + 1) N s := by
  unfold BtInv at *
  rcases h with ⟨hs, h1, h2⟩ | ⟨hs, h1, h2, h3⟩ | ⟨hs, h1, h2, h3⟩ | ⟨hs, h1, h2, h3, m, hm⟩
  · omega
  · omega
  · omega
  · right; right; right; exact ⟨hs, by omega, by omega, by omega, m, hm⟩

theorem bt_le {g p i N s : Int} (hg : 1 ≤ g) (h : BtInv g p i N s) (hp : 1 ≤ p) : i ≤ N ∧ N ≤ i + g + p + 2 * g ∧ 0 ≤ s ∧ s ≤ 3 := by
  rcases h with ⟨hs, h1, h2⟩ | ⟨hs, h1, h2, h3⟩ | ⟨hs, h1, h2, h3⟩ | ⟨hs, h1, h2, h3, m, hm⟩ <;> omega

theorem bt_loop (g p t st : Int) (hg : 1 ≤ g) (hg2 : g ≤ 20) (hp : 1 ≤ p) (hp2 : p ≤ 60) (ht : t ≤ 500) (hs0 : 0 ≤ st) (hs1 : st ≤ 65535) (d : Nat) : ∀ (k : Nat) (i N s : Int), 0 ≤ i → (t - i).toNat = d → d + 3 < k → BtInv g p i N s →
    carousellaw15_BurstTimes.l0 k st g p t i g p (st + N) true s = some true := by
  induction d with
  | zero =>
    intro k i N s hi hd hk hinv
    obtain ⟨k, rfl⟩ : ∃ m, k = m + 1 := ⟨k - 1, by omega⟩
    obtain ⟨k, rfl⟩ : ∃ m, k = m + 1 := ⟨k - 1, by omega⟩
    simp only [carousellaw15_BurstTimes.l0]
    rw [if_neg (by omega)]
    have h3 : carousellaw15_Awake.f (k + 1) = some true := at_rounds carousellaw15_Awake.mono (by omega) bt_awake
    rw [h3]
    simp [burst_Burst_End.f, burst_Burst_Tick.f, burst_Burst_Tick.j0]
  | succ d ih =>
    intro k i N s hi hd hk hinv
    obtain ⟨k, rfl⟩ : ∃ m, k = m + 1 := ⟨k - 1, by omega⟩
    have hlt : i < t := by omega
    have hw := bt_speaks hg hp hinv
    have hle := bt_le hg hinv hp
    have e1 : wrap64 (wrap64 st + i) = st + i := by rw [bt_wrap (n := st) (by omega) (by omega)]; exact bt_wrap (by omega) (by omega)
    have e2 : wrap64 (2 * g) = 2 * g := bt_wrap (by omega) (by omega)
    have e3 : wrap64 (i + 1) = i + 1 := bt_wrap (by omega) (by omega)
    have e4 : wrap64 (i - 2 * g) = i - 2 * g := bt_wrap (by omega) (by omega)
    have e5 : wrap64 (st + i + g) = st + (i + g) := by rw [bt_wrap (by omega) (by omega)]; omega
    have e6 : wrap64 (st + i + p) = st + (i + p) := by rw [bt_wrap (by omega) (by omega)]; omega
    -- the tick, as one fact
    have key : ∃ N' s', BtInv g p (i + 1) N' s' ∧ burst_Burst_Tick.f k g p (st + N) true s (st + i) = some (g, p, st + N', true, s', btWant g p i) := by
      rw [bt_tick k (by omega), hw]
      by_cases hN : i = N
      · rw [if_neg (by omega)]
        refine ⟨_, _, bt_next hg hp hinv hN, ?_⟩
        simp only [hN, decide_true]
        rw [← hN, e5, e6]
        split
        · rfl
        · split <;> rfl
      · rw [if_pos (by omega)]
        exact ⟨N, s, bt_stays hp hinv hN, by simp [hN]⟩
    obtain ⟨N', s', hinv', hT⟩ := key
    have hgo := ih k (i + 1) N' s' (by omega) (by omega) (by omega) hinv'
    simp only [carousellaw15_BurstTimes.l0]
    rw [if_pos hlt]
    simp only [e1, e2, e3, e4, hT, Option.bind_some]
    unfold btWant
    by_cases a1 : i = 0
    · rw [if_pos a1]; simp [a1] at hgo ⊢; exact hgo
    · rw [if_neg a1]
      by_cases a2 : i = g
      · rw [if_pos a2]; simp [a2] at hgo ⊢; exact hgo
      · rw [if_neg a2]
        by_cases a3 : i = 2 * g
        · rw [if_pos a3]; simp [a3] at hgo ⊢; exact hgo
        · rw [if_neg a3]
          by_cases a4 : i > 2 * g
          · rw [if_pos a4, if_neg (by omega)]
            have : 2 * g < i := a4
            by_cases a5 : Int.tmod (i - 2 * g) p = 0
            · simp [a5, this]; exact hgo
            · simp [a1, a2, a3, a5]; exact hgo
          · rw [if_neg a4]
            have : ¬ 2 * g < i := a4
            simp [a1, a2, a3, this]; exact hgo

theorem BurstTimes : carousellaw15_BurstTimes.Pure := by
  intro a0 a1 a2 a3 w0 w1 w2 w3
  have b0 := bt_u8 w0
  have b1 := bt_u8 w1
  have b2 := bt_u16 w2
  have b3 := bt_u16 w3
  refine ⟨600, ?_⟩
  unfold carousellaw15_BurstTimes.f
  have g0 : Int.tmod a0 20 = a0 % 20 := Int.tmod_eq_emod_of_nonneg (by omega)
  have g1 : Int.tmod a1 60 = a1 % 60 := Int.tmod_eq_emod_of_nonneg (by omega)
  have g3 : Int.tmod a3 500 = a3 % 500 := Int.tmod_eq_emod_of_nonneg (by omega)
  rw [g0, g1, g3, bt_wrap (n := a0 % 20) (by omega) (by omega), bt_wrap (n := a1 % 60) (by omega) (by omega), bt_wrap (n := a3 % 500) (by omega) (by omega), bt_wrap (n := a2) (by omega) (by omega), bt_wrap (n := a0 % 20 + 1) (by omega) (by omega), bt_wrap (n := a1 % 60 + 1) (by omega) (by omega)]
  have hnew : burst_New.f (a0 % 20 + 1) (a1 % 60 + 1) = some (a0 % 20 + 1, a1 % 60 + 1, 0, false, 0, 0) := by
    unfold burst_New.f burst_may.f
    rw [if_pos (by omega), if_pos (by omega)]
    simp only [Option.bind_some]
    rw [if_pos (by simp; omega), if_pos (by simp; omega)]
  rw [hnew]
  simp only [Option.bind_some, if_true, burst_Burst_Begin.f]
  have := bt_loop (a0 % 20 + 1) (a1 % 60 + 1) (a3 % 500) a2 (by omega) (by omega) (by omega) (by omega) (by omega) (by omega) (by omega) (a3 % 500 - 0).toNat 600 0 0 0 (by omega) rfl (by omega) (.inl ⟨rfl, rfl, rfl⟩)
  rw [Int.add_zero] at this
  exact this

end Go.Proofs.Ytmdaaphjndjakaa.Pure
