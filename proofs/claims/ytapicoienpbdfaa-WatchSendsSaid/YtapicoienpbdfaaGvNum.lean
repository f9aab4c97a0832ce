/- Plain words: the number of so many bytes of a string, from a place on; a tagged frame opened. No program in sight. -/
import Derived.Test.YtapicoienpbdfaaGvTag
namespace Go.Proofs.Ytapicoienpbdfaa.Gv
open Go.RowKit Go.Proofs.YtapicoienpbdfaaW.PrintWords
set_option linter.unusedVariables false

/-- The number of n bytes from place a on. -/
def numOf (s : ByteArray) (a n : Nat) : Int := valOf (((sBits s).drop (8 * a)).take (8 * n))
theorem flat_drop (n : Nat) : ∀ l : List Int, (l.flatMap fun b => bitsOf 8 b).drop (8 * n) = (l.drop n).flatMap fun b => bitsOf 8 b := by
  induction n with
  | zero => intro l; simp
  | succ n ih =>
    intro l
    cases l with
    | nil => simp
    | cons b l =>
      rw [List.flatMap_cons, List.drop_succ_cons, List.drop_append, bitsOf_length, List.drop_of_length_le (by rw [bitsOf_length]; omega), List.nil_append, show 8 * (n + 1) - 8 = 8 * n from by omega, ih]
theorem sBits_extract (s : ByteArray) (a : Nat) : sBits (s.extract a s.size) = (sBits s).drop (8 * a) := by
  unfold sBits
  rw [flat_drop, bytesOf_extract, List.take_of_length_le (by rw [bytesOf_length]; exact Nat.le_refl _)]
theorem drop_bits {l : List Int} (h : IsBits l) (k : Nat) : IsBits (l.drop k) := h.drop k
theorem num_bits (s : ByteArray) (a n : Nat) : IsBits (((sBits s).drop (8 * a)).take (8 * n)) := fun b hb => sBits_bits s b (List.mem_of_mem_drop (List.mem_of_mem_take hb))
theorem num_len (s : ByteArray) (a n : Nat) (h : a + n ≤ s.size) : (((sBits s).drop (8 * a)).take (8 * n)).length = 8 * n := by
  rw [List.length_take, List.length_drop, sBits_length]; omega
theorem numOf_range (s : ByteArray) (a n : Nat) (h : a + n ≤ s.size) : 0 ≤ numOf s a n ∧ numOf s a n < 2 ^ (8 * n) := by
  have := valOf_range (num_bits s a n)
  rwa [num_len s a n h] at this
theorem num_back (s : ByteArray) (a n : Nat) (h : a + n ≤ s.size) : bitsOf (8 * n) (numOf s a n) = ((sBits s).drop (8 * a)).take (8 * n) := by
  have := bitsOf_valOf (num_bits s a n)
  rwa [num_len s a n h] at this
theorem num_cut (s : ByteArray) (a n : Nat) (h : a + n ≤ s.size) : (sBits s).drop (8 * a) = bitsOf (8 * n) (numOf s a n) ++ (sBits s).drop (8 * (a + n)) := by
  rw [num_back s a n h, show 8 * (a + n) = 8 * a + 8 * n from by omega, ← List.drop_drop, List.take_append_drop]
theorem num_bytes (s : ByteArray) (a n : Nat) (h : a + n ≤ s.size) : strOfNums (packB (bitsOf (8 * n) (numOf s a n))) = s.extract a (a + n) := by
  rw [num_back s a n h]
  unfold sBits
  rw [flat_drop, flat_take]
  have := packB_bytes (((bytesOf s).drop a).take n) (fun b hb => bytesOf_range s b (List.mem_of_mem_drop (List.mem_of_mem_take hb))) []
  rw [List.append_nil, packB_nil, List.append_nil] at this
  rw [this]
  apply bytesOf_inj
  rw [bytesOf_str _ (fun b hb => bytesOf_range s b (List.mem_of_mem_drop (List.mem_of_mem_take hb))), bytesOf_extract, List.drop_take, show a + n - a = n from by omega]
theorem bits8_take (b : Int) (l : List Int) : (bitsOf 8 b ++ l).take 8 = bitsOf 8 b := by
  rw [List.take_append_of_le_length (by rw [bitsOf_length]; exact Nat.le_refl _), List.take_of_length_le (by rw [bitsOf_length]; exact Nat.le_refl _)]
theorem num_one (s : ByteArray) (a : Nat) (h : a < s.size) : numOf s a 1 = bt s (a : Int) := by
  unfold numOf sBits
  rw [flat_drop]
  have hl : a < (bytesOf s).length := by rw [bytesOf_length]; exact h
  rw [List.drop_eq_getElem_cons hl, List.flatMap_cons, show 8 * 1 = 8 from rfl, bits8_take, valOf_bitsOf, show (2 : Int) ^ 8 = 256 from by decide]
  have hr := bytesOf_range s (bytesOf s)[a] (List.getElem_mem hl)
  rw [bt_get, Int.toNat_natCast, List.getD_eq_getElem?_getD, List.getElem?_eq_getElem hl, Int.emod_eq_of_lt hr.1 (by omega)]
  rfl
/-- A number of m + n bytes: of the first m, then of n more. -/
theorem num_add (s : ByteArray) (a m n : Nat) (h : a + (m + n) ≤ s.size) : numOf s a (m + n) = numOf s a m * 2 ^ (8 * n) + numOf s (a + m) n := by
  have hl := num_len s (a + m) n (by omega)
  unfold numOf at *
  rw [show 8 * (m + n) = 8 * m + 8 * n from by omega, List.take_add, valOf_append, List.drop_drop, show 8 * a + 8 * m = 8 * (a + m) from by omega, hl]
theorem num_two (s : ByteArray) (a : Nat) (h : a + 2 ≤ s.size) : numOf s a 2 = bt s (a : Int) * 256 + bt s ((a + 1 : Nat) : Int) := by
  have := num_add s a 1 1 (by omega)
  rw [this, num_one s a (by omega), num_one s (a + 1) (by omega)]
  rfl
theorem split_one (s : ByteArray) (n : Nat) (h1 : 1 ≤ n) (h8 : n ≤ 8) (h : n ≤ s.size) : split s [((8 * n : Nat) : Int)] = ([valOf ((sBits s).take (8 * n))], s.extract n s.size, 0) := by
  have e1 : okW [((8 * n : Nat) : Int)] = true := by simp [okW]; omega
  have e2 : sumW [((8 * n : Nat) : Int)] = ((8 * n : Nat) : Int) := by simp [sumW]
  have e3 : vals (sBits s) [((8 * n : Nat) : Int)] = [valOf ((sBits s).take (8 * n))] := rfl
  unfold split
  rw [if_pos e1, e2, if_pos (by omega), if_neg (by omega), e3, show (((8 * n : Nat) : Int) / 8).toNat = n from by omega]

/-! ### a tagged frame -/
def tagW : List Int := [48, 48, 16, 3, 1, 12, 16]
theorem split_tag (s : ByteArray) (h : 18 ≤ s.size) :
    split s tagW = ([numOf s 0 6, numOf s 6 6, numOf s 12 2, numOf s 14 2 / 8192, numOf s 14 2 / 4096 % 2, numOf s 14 2 % 4096, numOf s 16 2], s.extract 18 s.size, 0) := by
  have e1 : okW tagW = true := by decide
  have e2 : sumW tagW = 144 := by decide
  unfold split
  rw [if_pos e1, e2, if_pos (by decide), if_neg (by omega)]
  have r0 := numOf_range s 0 6 (by omega); have r1 := numOf_range s 6 6 (by omega); have r2 := numOf_range s 12 2 (by omega); have r3 := numOf_range s 14 2 (by omega); have r4 := numOf_range s 16 2 (by omega)
  have c0 := num_cut s 0 6 (by omega); have c1 := num_cut s 6 6 (by omega); have c2 := num_cut s 12 2 (by omega); have c3 := num_cut s 14 2 (by omega); have c4 := num_cut s 16 2 (by omega)
  have p48 : (2 : Int) ^ (8 * 6) = 281474976710656 := by decide
  have p16 : (2 : Int) ^ (8 * 2) = 65536 := by decide
  rw [p48] at r0 r1
  rw [p16] at r2 r3 r4
  rw [Nat.mul_zero, List.drop_zero] at c0
  have d3 : bitsOf (8 * 2) (numOf s 14 2) = bitsOf 3 (numOf s 14 2 / 8192) ++ (bitsOf 1 (numOf s 14 2 / 4096) ++ bitsOf 12 (numOf s 14 2)) := by
    have a1 := bitsOf_add 4 12 (numOf s 14 2)
    have a2 := bitsOf_add 3 1 (numOf s 14 2 / 2 ^ 12)
    rw [show (2 : Int) ^ 12 = 4096 from by decide] at a1 a2
    rw [show (2 : Int) ^ 1 = 2 from by decide, Int.ediv_ediv_of_nonneg (by decide)] at a2
    rw [← List.append_assoc]
    exact a1.trans (by rw [show (4 : Nat) = 3 + 1 from rfl, a2]; rfl)
  have e4 : vals (sBits s) tagW = [numOf s 0 6, numOf s 6 6, numOf s 12 2, numOf s 14 2 / 8192, numOf s 14 2 / 4096 % 2, numOf s 14 2 % 4096, numOf s 16 2] := by
    rw [c0, c1, c2, c3, c4, d3, List.append_assoc, List.append_assoc, show tagW = (((8 * 6 : Nat) : Int)) :: ((8 * 6 : Nat) : Int) :: ((8 * 2 : Nat) : Int) :: ((3 : Nat) : Int) :: ((1 : Nat) : Int) :: ((12 : Nat) : Int) :: ((8 * 2 : Nat) : Int) :: [] from rfl]
    rw [vals_cons, vals_cons, vals_cons, vals_cons, vals_cons, vals_cons, vals_cons, vals_none, p48, p16]
    rw [show (2 : Int) ^ 3 = 8 from by decide, show (2 : Int) ^ 1 = 2 from by decide, show (2 : Int) ^ 12 = 4096 from by decide]
    rw [Int.emod_eq_of_lt r0.1 r0.2, Int.emod_eq_of_lt r1.1 r1.2, Int.emod_eq_of_lt r2.1 r2.2, Int.emod_eq_of_lt r4.1 r4.2, Int.emod_eq_of_lt (a := numOf s 14 2 / 8192) (by omega) (by omega)]
  rw [e4]
  rfl
theorem split_tag_short (s : ByteArray) (h : s.size < 18) : split s tagW = ([], ⟨#[]⟩, 1) := by
  have e1 : okW tagW = true := by decide
  have e2 : sumW tagW = 144 := by decide
  unfold split
  rw [if_pos e1, e2, if_pos (by decide), if_pos (by omega)]
/-- Nothing, and what is wrong. -/
def tagNone (e : Int) : Int × Int × Int × Bool × Int × Int × ByteArray × Int := (0, 0, 0, false, 0, 0, ⟨#[]⟩, e)
/-- The frame of bytes, or what is wrong. -/
def tagOpen (s : ByteArray) : Int × Int × Int × Bool × Int × Int × ByteArray × Int :=
  if s.size > 1600 then tagNone 2
  else if s.size < 18 then tagNone 1
  else if numOf s 12 2 = 33024 then
    (if tagWrong (numOf s 0 6) (numOf s 6 6) (numOf s 14 2 / 8192) (numOf s 14 2 % 4096) (numOf s 16 2) (s.size - 18) = 0
      then (numOf s 0 6, numOf s 6 6, numOf s 14 2 / 8192, numOf s 14 2 / 4096 % 2 == 1, numOf s 14 2 % 4096, numOf s 16 2, s.extract 18 s.size, 0)
      else tagNone (tagWrong (numOf s 0 6) (numOf s 6 6) (numOf s 14 2 / 8192) (numOf s 14 2 % 4096) (numOf s 16 2) (s.size - 18)))
  else tagNone 5
theorem tagHead_packed (d s p : Int) (b : Bool) (v t : Int) (hd0 : 0 ≤ d) (hd1 : d < 281474976710656) (hs0 : 0 ≤ s) (hs1 : s < 281474976710656) (hp0 : 0 ≤ p) (hp1 : p ≤ 7) (hv0 : 0 ≤ v) (hv1 : v ≤ 4095) (ht0 : 0 ≤ t) (ht1 : t ≤ 65535) (body : ByteArray) :
    split (tagHead d s p b v t ++ body) tagW = ([d, s, 33024, p, bt1 b, v, t], body, 0) := by
  have h := pack_tag d s p b v t hd0 hd1 hs0 hs1 hp0 hp1 hv0 hv1 ht0 ht1
  unfold pack at h
  by_cases h1 : isU64 (tagParts d s p b v t) = true ∧ (tagParts d s p b v t).length ≤ 1000000
  · rw [if_pos h1] at h
    by_cases h2 : (tagParts d s p b v t).all okPart = true
    · rw [if_pos h2] at h
      by_cases h3 : (allBits (tagParts d s p b v t)).length % 8 = 0
      · rw [if_pos h3] at h
        have e : ofNums (packB (allBits (tagParts d s p b v t))) = tagHead d s p b v t := (Prod.mk.inj (Option.some.inj h)).1
        rw [← e]
        exact split_pack (tagParts d s p b v t) h2 h1.1 h3 body
      · rw [if_neg h3] at h; simp at h
    · rw [if_neg h2] at h; simp at h
  · rw [if_neg h1] at h; simp at h
theorem tagWrong_zero {d s p v t : Int} {n : Nat} (h : tagWrong d s p v t n = 0) : (d < 281474976710656 ∧ s < 281474976710656 ∧ s / 1099511627776 % 2 = 0) ∧ (p ≤ 7 ∧ 1 ≤ v ∧ v ≤ 4094) ∧ ¬ t < 1536 ∧ ¬ n > 1582 := by
  unfold tagWrong at h
  by_cases h1 : d < 281474976710656 ∧ s < 281474976710656 ∧ s / 1099511627776 % 2 = 0
  · rw [if_pos h1] at h
    by_cases h2 : p ≤ 7 ∧ 1 ≤ v ∧ v ≤ 4094
    · rw [if_pos h2] at h
      by_cases h3 : t < 1536
      · rw [if_pos h3] at h; omega
      · rw [if_neg h3] at h
        by_cases h4 : n > 1582
        · rw [if_pos h4] at h; omega
        · exact ⟨h1, h2, h3, h4⟩
    · rw [if_neg h2] at h; omega
  · rw [if_neg h1] at h; omega
/-- What is closed is opened as it was. -/
theorem tag_there (d s p : Int) (b : Bool) (v t : Int) (body : ByteArray) (hd0 : 0 ≤ d) (hs0 : 0 ≤ s) (hp0 : 0 ≤ p) (hv0 : 0 ≤ v) (ht0 : 0 ≤ t) (ht1 : t ≤ 65535) (h : tagWrong d s p v t body.size = 0) :
    tagOpen (tagHead d s p b v t ++ body) = (d, s, p, b, v, t, body, 0) := by
  have hz := tagWrong_zero h
  have hsz : (tagHead d s p b v t ++ body).size = 18 + body.size := by rw [ByteArray.size_append, tagHead_size]
  have e1 := tagHead_packed d s p b v t hd0 hz.1.1 hs0 hz.1.2.1 hp0 hz.2.1.1 hv0 (by omega) ht0 ht1 body
  have e2 := split_tag (tagHead d s p b v t ++ body) (by omega)
  rw [e1] at e2
  generalize tagHead d s p b v t ++ body = x at e2 hsz
  simp only [Prod.mk.injEq, List.cons.injEq, and_true] at e2
  obtain ⟨⟨a0, a1, a2, a3, a4, a5, a6⟩, a7⟩ := e2
  unfold tagOpen
  rw [if_neg (by omega), if_neg (by omega), ← a0, ← a1, ← a2, ← a3, ← a4, ← a5, ← a6, ← a7, if_pos rfl, hsz, show 18 + body.size - 18 = body.size from by omega, if_pos h]
  have eb : (bt1 b == 1) = b := by cases b <;> rfl
  rw [eb]
theorem ext_join (s : ByteArray) (a b c : Nat) (h1 : a ≤ b) (h2 : b ≤ c) (h3 : c ≤ s.size) : s.extract a b ++ s.extract b c = s.extract a c := by
  apply bytesOf_inj
  rw [bytesOf_append, bytesOf_extract, bytesOf_extract, bytesOf_extract]
  have hl : (bytesOf s).length = s.size := bytesOf_length s
  rw [List.drop_take, List.drop_take, List.drop_take, show c - a = (b - a) + (c - b) from by omega, List.take_add, List.drop_drop, show a + (b - a) = b from by omega]
theorem ext_whole (s : ByteArray) : s.extract 0 s.size = s := by
  apply bytesOf_inj
  rw [bytesOf_extract, List.take_of_length_le (by rw [bytesOf_length]; exact Nat.le_refl _), List.drop_zero]
theorem bt1_of (n : Int) : bt1 (n % 2 == 1) = n % 2 := by
  rcases mod2 n with h | h <;> rw [h] <;> rfl
/-- What is opened is closed as it was. -/
theorem tag_back (s : ByteArray) (h : 18 ≤ s.size) (hm : numOf s 12 2 = 33024) :
    tagHead (numOf s 0 6) (numOf s 6 6) (numOf s 14 2 / 8192) (numOf s 14 2 / 4096 % 2 == 1) (numOf s 14 2 % 4096) (numOf s 16 2) ++ s.extract 18 s.size = s := by
  have b0 := num_bytes s 0 6 (by omega); have b1 := num_bytes s 6 6 (by omega); have b2 := num_bytes s 12 2 (by omega); have b3 := num_bytes s 14 2 (by omega); have b4 := num_bytes s 16 2 (by omega)
  rw [hm, show 8 * 2 = 16 from rfl, tag_mark, show strOfNums [129, 0] = (⟨#[129, 0]⟩ : ByteArray) from rfl] at b2
  have en : numOf s 14 2 / 8192 * 8192 + numOf s 14 2 % 4096 + bt1 (numOf s 14 2 / 4096 % 2 == 1) * 4096 = numOf s 14 2 := by
    rw [bt1_of]; omega
  unfold tagHead
  rw [en]
  rw [show (16 : Nat) = 8 * 2 from rfl, show (48 : Nat) = 8 * 6 from rfl, b0, b1, b2, b3, b4]
  simp only [Nat.reduceAdd]
  rw [ext_join s 0 6 12 (by omega) (by omega) (by omega), ext_join s 0 12 14 (by omega) (by omega) (by omega), ext_join s 0 14 16 (by omega) (by omega) (by omega), ext_join s 0 16 18 (by omega) (by omega) (by omega), ext_join s 0 18 s.size (by omega) (by omega) (by omega), ext_whole]

end Go.Proofs.Ytapicoienpbdfaa.Gv
