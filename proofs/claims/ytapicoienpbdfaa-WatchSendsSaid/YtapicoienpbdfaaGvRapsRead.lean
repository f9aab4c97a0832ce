/- Plain words of layer 5: a message read. No program in sight. -/
import Derived.Test.YtapicoienpbdfaaGvNum
import Derived.Test.YtapicoienpbdfaaGvRaps
namespace Go.Proofs.Ytapicoienpbdfaa.Gv
open Go.RowKit Go.Proofs.YtapicoienpbdfaaW.PrintWords
set_option linter.unusedVariables false

/-- Are the first i bytes 0? -/
def allz (s : ByteArray) : Nat → Bool
  | 0 => true
  | i + 1 => allz s i && (bt s i == 0)
theorem allz_false (s : ByteArray) (i : Nat) (h : allz s i = false) (d : Nat) : allz s (i + d) = false := by
  induction d with
  | zero => exact h
  | succ d ih => show (allz s (i + d) && _) = false; rw [ih]; rfl
theorem allz_all (s : ByteArray) (i : Nat) : allz s i = true ↔ ∀ j : Nat, j < i → bt s (j : Int) = 0 := by
  induction i with
  | zero => simp [allz]
  | succ i ih =>
    show (allz s i && (bt s i == 0)) = true ↔ _
    rw [Bool.and_eq_true, ih, beq_iff_eq]
    constructor
    · intro h j hj
      by_cases e : j = i
      · rw [e]; exact h.2
      · exact h.1 j (by omega)
    · intro h
      exact ⟨fun j hj => h j (by omega), h i (by omega)⟩
theorem allz_str (s : ByteArray) : allz s s.size = true ↔ s = strOfNums (List.replicate s.size 0) := by
  rw [allz_all]
  have hr : ∀ b ∈ List.replicate s.size (0 : Int), 0 ≤ b ∧ b ≤ 255 := by
    intro b hb
    have := (List.mem_replicate.1 hb).2
    omega
  constructor
  · intro h
    apply bytesOf_inj
    rw [bytesOf_str _ hr]
    rw [List.eq_replicate_iff]
    refine ⟨bytesOf_length s, fun b hb => ?_⟩
    obtain ⟨i, hi, rfl⟩ := List.getElem_of_mem hb
    have := h i (by rw [← bytesOf_length]; exact hi)
    rw [bt_get, Int.toNat_natCast, List.getD_eq_getElem?_getD, List.getElem?_eq_getElem hi] at this
    exact this
  · intro h j hj
    have e : bytesOf s = List.replicate s.size 0 := by
      have := congrArg bytesOf h
      rwa [bytesOf_str _ hr] at this
    rw [bt_get, e, Int.toNat_natCast, List.getD_eq_getElem?_getD, List.getElem?_replicate, if_pos hj]
    rfl
theorem str_list {s t : ByteArray} : s.toList = t.toList ↔ s = t := by
  rw [ByteArray.toList_eq, ByteArray.toList_eq]
  constructor
  · intro h
    exact ByteArray.ext (Array.toList_inj.1 h)
  · intro h; rw [h]

theorem split_raps (c : ByteArray) (h : 8 ≤ c.size) :
    split c [4, 4, 1, 1, 1, 5, 48] = ([bt c 0 / 16, bt c 0 % 16, bt c 1 / 128, bt c 1 / 64 % 2, bt c 1 / 32 % 2, bt c 1 % 32, numOf c 2 6], c.extract 8 c.size, 0) := by
  have e1 : okW [4, 4, 1, 1, 1, 5, 48] = true := by decide
  have e2 : sumW [4, 4, 1, 1, 1, 5, 48] = 64 := by decide
  unfold split
  rw [if_pos e1, e2, if_pos (by decide), if_neg (by omega)]
  have r2 := numOf_range c 2 6 (by omega)
  have b0 := bt_range c 0; have b1 := bt_range c 1
  have c0 := num_cut c 0 1 (by omega); have c1 := num_cut c 1 1 (by omega); have c2 := num_cut c 2 6 (by omega)
  rw [num_one c 0 (by omega)] at c0
  rw [num_one c 1 (by omega)] at c1
  have p48 : (2 : Int) ^ (8 * 6) = 281474976710656 := by decide
  rw [p48] at r2
  rw [Nat.mul_zero, List.drop_zero] at c0
  have d0 : bitsOf (8 * 1) (bt c ((0 : Nat) : Int)) = bitsOf 4 (bt c 0 / 16) ++ bitsOf 4 (bt c 0) := bitsOf_add 4 4 (bt c 0)
  have d1 : bitsOf (8 * 1) (bt c ((1 : Nat) : Int)) = bitsOf 1 (bt c 1 / 128) ++ (bitsOf 1 (bt c 1 / 64) ++ (bitsOf 1 (bt c 1 / 32) ++ bitsOf 5 (bt c 1))) := by
    have a1 := bitsOf_add 3 5 (bt c 1)
    have a2 := bitsOf_add 2 1 (bt c 1 / 2 ^ 5)
    have a3 := bitsOf_add 1 1 (bt c 1 / 2 ^ 5 / 2 ^ 1)
    rw [show (2 : Int) ^ 5 = 32 from by decide] at a1 a2 a3
    rw [show (2 : Int) ^ 1 = 2 from by decide] at a2 a3
    rw [Int.ediv_ediv_of_nonneg (by decide)] at a2 a3
    rw [Int.ediv_ediv_of_nonneg (by decide)] at a3
    show bitsOf (3 + 5) (bt c 1) = _
    rw [a1, show (3 : Nat) = 2 + 1 from rfl, a2, show (2 : Nat) = 1 + 1 from rfl, a3, List.append_assoc, List.append_assoc]
    rfl
  have e4 : vals (sBits c) [4, 4, 1, 1, 1, 5, 48] = [bt c 0 / 16, bt c 0 % 16, bt c 1 / 128, bt c 1 / 64 % 2, bt c 1 / 32 % 2, bt c 1 % 32, numOf c 2 6] := by
    rw [c0, c1, c2, d0, d1]
    simp only [List.append_assoc]
    rw [show ([4, 4, 1, 1, 1, 5, 48] : List Int) = ((4 : Nat) : Int) :: ((4 : Nat) : Int) :: ((1 : Nat) : Int) :: ((1 : Nat) : Int) :: ((1 : Nat) : Int) :: ((5 : Nat) : Int) :: ((8 * 6 : Nat) : Int) :: [] from rfl]
    rw [vals_cons, vals_cons, vals_cons, vals_cons, vals_cons, vals_cons, vals_cons, vals_none, p48]
    rw [show (2 : Int) ^ 4 = 16 from by decide, show (2 : Int) ^ 1 = 2 from by decide, show (2 : Int) ^ 5 = 32 from by decide]
    rw [Int.emod_eq_of_lt r2.1 r2.2, Int.emod_eq_of_lt (a := bt c 0 / 16) (by omega) (by omega), Int.emod_eq_of_lt (a := bt c 1 / 128) (by omega) (by omega)]
  rw [e4]
  rfl

/-- Nothing, and what is wrong. -/
def rapsNone (e : Int) : Int × Bool × Bool × Bool × Int × Int := (0, false, false, false, 0, e)
/-- A message's content, read. -/
def rapsRead (f : Int) (c : ByteArray) : Int × Bool × Bool × Bool × Int × Int :=
  if f = 0 ∧ bt c 0 % 16 = 0 ∧ bt c 1 % 32 = 0 ∧ c.extract 8 c.size = strOfNums (List.replicate 24 0) then
    (if rapsWrong (bt c 0 / 16) (bt c 1 / 128 == 1) (numOf c 2 6) = 0
      then (bt c 0 / 16, bt c 1 / 128 == 1, bt c 1 / 64 % 2 == 1, bt c 1 / 32 % 2 == 1, numOf c 2 6, 0)
      else rapsNone (rapsWrong (bt c 0 / 16) (bt c 1 / 128 == 1) (numOf c 2 6)))
  else rapsNone 3
theorem rapsWrong_zero {r : Int} {b : Bool} {n : Int} (h : rapsWrong r b n = 0) : (r = 0 ∨ r = 7 ∨ r = 11 ∨ r = 13) ∧ n < 281474976710656 := by
  unfold rapsWrong at h
  by_cases h1 : r = 0 ∨ r = 7 ∨ r = 11 ∨ r = 13
  · rw [if_pos h1] at h
    refine ⟨h1, ?_⟩
    by_cases h2 : b = true ∧ r ≠ 0
    · rw [if_pos h2] at h; omega
    · rw [if_neg h2] at h
      by_cases h3 : n < 281474976710656 ∧ n / 1099511627776 % 2 = 0
      · exact h3.1
      · rw [if_neg h3] at h; omega
  · rw [if_neg h1] at h; omega
theorem bi_of (n : Int) : bi (n % 2 == 1) = n % 2 := by
  rcases mod2 n with h | h <;> rw [h] <;> rfl
/-- The numbers in a body. -/
theorem body_bytes (r : Int) (b k e : Bool) (n : Int) (hr0 : 0 ≤ r) (hr1 : r ≤ 15) : bytesOf (rapsBody r b k e n) = (r * 16) :: (bi b * 128 + bi k * 64 + bi e * 32) :: (packB (bitsOf 48 n) ++ List.replicate 24 0) := by
  have hb := bi_range b; have hk := bi_range k; have he := bi_range e
  have hz : ∀ x ∈ List.replicate 24 (0 : Int), 0 ≤ x ∧ x ≤ 255 := by
    intro x hx
    have := (List.mem_replicate.1 hx).2
    omega
  have h2 : ∀ x ∈ [r * 16, bi b * 128 + bi k * 64 + bi e * 32], 0 ≤ x ∧ x ≤ 255 := by
    intro x hx; simp at hx; omega
  unfold rapsBody
  rw [bytesOf_append, bytesOf_append, bytesOf_str _ h2, bytesOf_str _ (packB_range (bitsOf_bits _ _)), bytesOf_str _ hz]
  rfl
/-- What is closed is read as it was. -/
theorem raps_there (r : Int) (b k e : Bool) (n : Int) (hr0 : 0 ≤ r) (hn0 : 0 ≤ n) (h : rapsWrong r b n = 0) : rapsRead 0 (rapsBody r b k e n) = (r, b, k, e, n, 0) := by
  have hz := rapsWrong_zero h
  have hb := bi_range b; have hk := bi_range k; have he := bi_range e
  have hby := body_bytes r b k e n hr0 (by omega)
  have hsz := rapsBody_size r b k e n
  generalize rapsBody r b k e n = c at hby hsz
  have g0 : bt c 0 = r * 16 := by rw [bt_get, hby]; rfl
  have g1 : bt c 1 = bi b * 128 + bi k * 64 + bi e * 32 := by rw [bt_get, hby]; rfl
  have hpl : (packB (bitsOf 48 n)).length = 6 := by rw [packB_length, bitsOf_length]
  have g2 : numOf c 2 6 = n := by
    unfold numOf sBits
    rw [flat_drop, hby]
    simp only [List.drop_succ_cons, List.drop_zero]
    rw [List.flatMap_append, packB_flat 6 _ (bitsOf_bits _ _) (bitsOf_length _ _), List.take_append_of_le_length (by rw [bitsOf_length]; exact Nat.le_refl _), List.take_of_length_le (by rw [bitsOf_length]; exact Nat.le_refl _), valOf_bitsOf, show (2 : Int) ^ 48 = 281474976710656 from by decide, Int.emod_eq_of_lt hn0 hz.2]
  have g3 : c.extract 8 c.size = strOfNums (List.replicate 24 0) := by
    apply bytesOf_inj
    rw [bytesOf_extract, List.take_of_length_le (by rw [bytesOf_length]; exact Nat.le_refl _), hby]
    have hzr : ∀ x ∈ List.replicate 24 (0 : Int), 0 ≤ x ∧ x ≤ 255 := by
      intro x hx
      have := (List.mem_replicate.1 hx).2
      omega
    rw [bytesOf_str _ hzr]
    simp only [List.drop_succ_cons]
    rw [List.drop_left' hpl]
  have eb : (bi b * 128 + bi k * 64 + bi e * 32) / 128 = bi b := by omega
  have ek : (bi b * 128 + bi k * 64 + bi e * 32) / 64 % 2 = bi k := by omega
  have ee : (bi b * 128 + bi k * 64 + bi e * 32) / 32 % 2 = bi e := by omega
  have q : ∀ x : Bool, (bi x == 1) = x := by intro x; cases x <;> rfl
  unfold rapsRead
  rw [g0, g1, g2, g3, eb, ek, ee, q, q, q, show r * 16 / 16 = r from by omega]
  rw [if_pos ⟨rfl, by omega, by omega, rfl⟩, if_pos h]
/-- What is read is closed as it was. -/
theorem raps_back (c : ByteArray) (hc : c.size = 32) (h0 : bt c 0 % 16 = 0) (h1 : bt c 1 % 32 = 0) (h3 : c.extract 8 c.size = strOfNums (List.replicate 24 0)) :
    rapsBody (bt c 0 / 16) (bt c 1 / 128 == 1) (bt c 1 / 64 % 2 == 1) (bt c 1 / 32 % 2 == 1) (numOf c 2 6) = c := by
  have b0 := bt_range c 0; have b1 := bt_range c 1
  have hb : bi (bt c 1 / 128 == 1) = bt c 1 / 128 := by
    have := bi_of (bt c 1 / 128)
    rwa [Int.emod_eq_of_lt (a := bt c 1 / 128) (by omega) (by omega)] at this
  have n6 := num_bytes c 2 6 (by omega)
  unfold rapsBody
  rw [hb, bi_of, bi_of, ← h3, show bt c 0 / 16 * 16 = bt c 0 from by omega, show bt c 1 / 128 * 128 + bt c 1 / 64 % 2 * 64 + bt c 1 / 32 % 2 * 32 = bt c 1 from by omega]
  rw [show (48 : Nat) = 8 * 6 from rfl, n6]
  have e2 : strOfNums [bt c 0, bt c 1] = c.extract 0 2 := by
    apply bytesOf_inj
    rw [bytesOf_str _ (by intro x hx; simp at hx; omega), bytesOf_extract, List.drop_zero]
    have hh := bytesOf_head c 2 (by omega)
    rw [hh, List.take_left' (by simp)]
    rfl
  rw [e2]
  simp only [Nat.reduceAdd]
  rw [ext_join c 0 2 8 (by omega) (by omega) (by omega), ext_join c 0 8 c.size (by omega) (by omega) (by omega), ext_whole]

end Go.Proofs.Ytapicoienpbdfaa.Gv
