/- Plain words: packed bits split, and split bits packed. No program in sight. -/
import Derived.Test.YtkjjdphlfbecdaaGvBytes
namespace Go.Proofs.Ytkjjdphlfbecdaa.Gv
open Go.RowKit Go.Proofs.YtkjjdphlfbecdaaW.PrintWords
set_option linter.unusedVariables false

theorem flat_take (n : Nat) : ∀ l : List Int, (l.flatMap fun b => bitsOf 8 b).take (8 * n) = (l.take n).flatMap fun b => bitsOf 8 b := by
  induction n with
  | zero => intro l; simp
  | succ n ih =>
    intro l
    cases l with
    | nil => simp
    | cons b l =>
      rw [List.flatMap_cons, List.take_succ_cons, List.flatMap_cons, List.take_append, bitsOf_length, List.take_of_length_le (by rw [bitsOf_length]; omega), show 8 * (n + 1) - 8 = 8 * n from by omega, ih]
theorem packB_flat (n : Nat) : ∀ bits : List Int, IsBits bits → bits.length = 8 * n → ((packB bits).flatMap fun b => bitsOf 8 b) = bits := by
  induction n with
  | zero =>
    intro bits h hl
    have e : bits = [] := List.eq_nil_of_length_eq_zero (by omega)
    rw [e]; rfl
  | succ n ih =>
    intro bits h hl
    have h8 : bitsOf 8 (valOf (bits.take 8)) = bits.take 8 := by
      have := bitsOf_valOf (l := bits.take 8) (fun b hb => h b (List.mem_of_mem_take hb))
      rwa [List.length_take, show min 8 bits.length = 8 from by omega] at this
    have e : bits = bitsOf 8 (valOf (bits.take 8)) ++ bits.drop 8 := by rw [h8]; exact (List.take_append_drop 8 bits).symm
    have hd := ih (bits.drop 8) (h.drop 8) (by rw [List.length_drop]; omega)
    generalize valOf (bits.take 8) = v at e
    generalize bits.drop 8 = m at e hd
    subst e
    have e2 := bitsOf_mod 8 v
    rw [show (2 : Int) ^ 8 = 256 from by decide] at e2
    rw [packB_byte, List.flatMap_cons, hd, e2]
/-- Whole bytes ahead: their bytes come first. -/
theorem packB_whole (n : Nat) : ∀ bits m : List Int, IsBits bits → bits.length = 8 * n → packB (bits ++ m) = packB bits ++ packB m := by
  intro bits m h hl
  have hr := packB_flat n bits h hl
  have h2 := packB_bytes (packB bits) (packB_range h) m
  rwa [hr] at h2
theorem foldl_sum (l : List Int) (a : Int) : l.foldl (· + ·) a = a + l.foldl (· + ·) 0 := by
  induction l generalizing a with
  | nil => simp
  | cons b l ih => rw [List.foldl_cons, List.foldl_cons, ih, ih (0 + b)]; omega
theorem sumW_cons (w : Int) (ws : List Int) : sumW (w :: ws) = w + sumW ws := by
  unfold sumW
  rw [List.foldl_cons, foldl_sum]; omega
theorem allBits_cons (p : Int × Int) (l : List (Int × Int)) : allBits (p :: l) = bitsOf p.1.toNat p.2 ++ allBits l := rfl
theorem bits_all (l : List (Int × Int)) : IsBits (allBits l) := by
  intro b hb
  simp only [allBits, List.mem_flatMap] at hb
  obtain ⟨p, _, hb⟩ := hb
  exact bitsOf_bits _ _ b hb
theorem okPart_w {p : Int × Int} (h : okPart p = true) : 1 ≤ p.1 ∧ p.1 ≤ 64 := by
  simp only [okPart, Bool.and_eq_true, decide_eq_true_eq] at h
  exact h.1
theorem okW_parts (l : List (Int × Int)) (h : l.all okPart = true) : okW (l.map (·.1)) = true := by
  simp only [okW, List.all_eq_true, List.mem_map] at *
  rintro x ⟨p, hp, rfl⟩
  have := okPart_w (h p hp)
  simp [this.1, this.2]
theorem sum_parts (l : List (Int × Int)) (h : l.all okPart = true) : sumW (l.map (·.1)) = ((allBits l).length : Int) := by
  induction l with
  | nil => rfl
  | cons p l ih =>
    rw [List.all_cons, Bool.and_eq_true] at h
    have := okPart_w h.1
    rw [List.map_cons, sumW_cons, ih h.2, allBits_cons, List.length_append, bitsOf_length]
    omega
theorem part_mod {p : Int × Int} (h : okPart p = true) (h0 : 0 ≤ p.2) (h1 : p.2 ≤ u64max) : p.2 % 2 ^ p.1.toNat = p.2 := by
  have hw := okPart_w h
  simp only [okPart, Bool.and_eq_true, Bool.or_eq_true, decide_eq_true_eq] at h
  have hp : (0 : Int) < 2 ^ p.1.toNat := Int.pow_pos (by decide)
  rcases h.2 with h2 | h2
  · have e : p.1.toNat = 64 := by omega
    rw [e, show (2 : Int) ^ 64 = 18446744073709551616 from by decide]
    unfold u64max at h1
    omega
  · rw [Int.emod_def, h2]; omega
theorem vals_parts (l : List (Int × Int)) (h : l.all okPart = true) (hu : isU64 l = true) (rest : List Int) : vals (allBits l ++ rest) (l.map (·.1)) = l.map (·.2) := by
  induction l with
  | nil => rfl
  | cons p l ih =>
    rw [List.all_cons, Bool.and_eq_true] at h
    simp only [isU64, List.all_cons, Bool.and_eq_true, decide_eq_true_eq] at hu
    have hw := okPart_w h.1
    have e := vals_cons p.1.toNat p.2 (allBits l ++ rest) (l.map (·.1))
    rw [Int.toNat_of_nonneg (by omega), part_mod h.1 hu.1.1 hu.1.2, ih h.2 (by simp only [isU64]; exact hu.2)] at e
    rw [List.map_cons, List.map_cons, allBits_cons, List.append_assoc, e]
/-- What is packed is split as it was, whatever is behind. -/
theorem split_pack (l : List (Int × Int)) (h : l.all okPart = true) (hu : isU64 l = true) (h8 : (allBits l).length % 8 = 0) (behind : ByteArray) :
    split (strOfNums (packB (allBits l)) ++ behind) (l.map (·.1)) = (l.map (·.2), behind, 0) := by
  have hb := bits_all l
  have e1 : bytesOf (strOfNums (packB (allBits l)) ++ behind) = packB (allBits l) ++ bytesOf behind := by
    rw [bytesOf_append, bytesOf_str _ (packB_range hb)]
  have hpl : (packB (allBits l)).length = (allBits l).length / 8 := by rw [packB_length]; omega
  have e2 : sBits (strOfNums (packB (allBits l)) ++ behind) = allBits l ++ sBits behind := by
    rw [sBits_cons e1, List.flatMap_append, packB_flat ((allBits l).length / 8) _ hb (by omega)]; rfl
  have hsz : (strOfNums (packB (allBits l)) ++ behind).size = (allBits l).length / 8 + behind.size := by
    rw [size_bytesOf, e1, List.length_append, hpl, bytesOf_length]
  unfold split
  rw [if_pos (okW_parts l h), sum_parts l h, if_pos (by omega), if_neg (by rw [hsz]; omega), e2, vals_parts l h hu]
  refine Prod.ext rfl (Prod.ext ?_ rfl)
  apply bytesOf_inj
  show bytesOf ((strOfNums (packB (allBits l)) ++ behind).extract _ _) = _
  rw [bytesOf_extract, e1, List.take_of_length_le (by rw [List.length_append, hpl, bytesOf_length, hsz]; omega)]
  rw [show (((allBits l).length : Int) / 8).toNat = (packB (allBits l)).length from by rw [hpl]; omega, List.drop_left]

theorem okW_cons {w : Int} {ws : List Int} (h : okW (w :: ws) = true) : 1 ≤ w ∧ w ≤ 64 ∧ okW ws = true := by
  simp only [okW, List.all_cons, Bool.and_eq_true, decide_eq_true_eq] at *
  exact ⟨h.1.1, h.1.2, h.2⟩
theorem sumW_nonneg (ws : List Int) (h : okW ws = true) : 0 ≤ sumW ws := by
  induction ws with
  | nil => simp [sumW]
  | cons w ws ih =>
    have := okW_cons h
    have := ih this.2.2
    rw [sumW_cons]; omega
theorem two_le {m : Nat} (h : m ≤ 64) : (2 : Int) ^ m ≤ 18446744073709551616 := by
  have : (2 : Nat) ^ m ≤ 2 ^ 64 := Nat.pow_le_pow_right (by decide) h
  have e : ((2 ^ m : Nat) : Int) = (2 : Int) ^ m := by push_cast; rfl
  rw [← e]
  have h64 : (2 : Nat) ^ 64 = 18446744073709551616 := by decide
  omega
theorem zip_bits (ws : List Int) : ∀ bits : List Int, IsBits bits → okW ws = true → sumW ws ≤ (bits.length : Int) →
    allBits (ws.zip (vals bits ws)) = bits.take (sumW ws).toNat ∧ (ws.zip (vals bits ws)).all okPart = true ∧ isU64 (ws.zip (vals bits ws)) = true := by
  induction ws with
  | nil => intro bits hb hok hl; simp [vals, allBits, sumW, isU64]
  | cons w ws ih =>
    intro bits hb hok hl
    have ho := okW_cons hok
    have hs := sumW_nonneg ws ho.2.2
    rw [sumW_cons] at hl
    have hd := ih (bits.drop w.toNat) (hb.drop _) ho.2.2 (by rw [List.length_drop]; omega)
    have hbt : IsBits (bits.take w.toNat) := fun b h => hb b (List.mem_of_mem_take h)
    have hlt : (bits.take w.toNat).length = w.toNat := by rw [List.length_take]; omega
    have hr := valOf_range hbt
    have hv := bitsOf_valOf hbt
    rw [hlt] at hr hv
    have h64 := two_le (m := w.toNat) (by omega)
    have ez : (w :: ws).zip (vals bits (w :: ws)) = (w, valOf (bits.take w.toNat)) :: ws.zip (vals (bits.drop w.toNat) ws) := rfl
    rw [ez]
    refine ⟨?_, ?_, ?_⟩
    · rw [allBits_cons, hd.1, sumW_cons]
      show bitsOf w.toNat (valOf (bits.take w.toNat)) ++ _ = _
      rw [hv, show (w + sumW ws).toNat = w.toNat + (sumW ws).toNat from by omega, List.take_add]
    · rw [List.all_cons, hd.2.1, Bool.and_true]
      simp only [okPart, Bool.and_eq_true, Bool.or_eq_true, decide_eq_true_eq]
      exact ⟨⟨ho.1, ho.2.1⟩, .inr (Int.ediv_eq_zero_of_lt hr.1 hr.2)⟩
    · have h3 := hd.2.2
      simp only [isU64, List.all_cons, Bool.and_eq_true, decide_eq_true_eq] at h3 ⊢
      refine ⟨⟨hr.1, ?_⟩, h3⟩
      unfold u64max
      omega
/-- What is split is packed as it was. -/
theorem pack_split (s : ByteArray) (ws : List Int) (hok : okW ws = true) (h8 : sumW ws % 8 = 0) (hsz : sumW ws / 8 ≤ (s.size : Int)) :
    strOfNums (packB (allBits (ws.zip (vals (sBits s) ws)))) ++ s.extract (sumW ws / 8).toNat s.size = s ∧ (allBits (ws.zip (vals (sBits s) ws))).length % 8 = 0 ∧
      (ws.zip (vals (sBits s) ws)).all okPart = true ∧ isU64 (ws.zip (vals (sBits s) ws)) = true := by
  have hs := sumW_nonneg ws hok
  have hz := zip_bits ws (sBits s) (sBits_bits s) hok (by rw [sBits_length]; omega)
  have hlen : ((sBits s).take (sumW ws).toNat).length = (sumW ws).toNat := by rw [List.length_take, sBits_length]; omega
  refine ⟨?_, ?_, hz.2.1, hz.2.2⟩
  · rw [hz.1]
    have e8 : (sumW ws).toNat = 8 * (sumW ws / 8).toNat := by omega
    have e : packB ((sBits s).take (sumW ws).toNat) = (bytesOf s).take (sumW ws / 8).toNat := by
      rw [e8]
      unfold sBits
      rw [flat_take]
      have := packB_bytes ((bytesOf s).take (sumW ws / 8).toNat) (fun b hb => bytesOf_range s b (List.mem_of_mem_take hb)) []
      rwa [List.append_nil, packB_nil, List.append_nil] at this
    rw [e]
    apply bytesOf_inj
    rw [bytesOf_append, bytesOf_str _ (fun b hb => bytesOf_range s b (List.mem_of_mem_take hb)), bytesOf_extract, List.take_of_length_le (l := bytesOf s) (i := s.size) (by rw [bytesOf_length]; omega), List.take_append_drop]
  · rw [hz.1, hlen]; omega

end Go.Proofs.Ytkjjdphlfbecdaa.Gv
