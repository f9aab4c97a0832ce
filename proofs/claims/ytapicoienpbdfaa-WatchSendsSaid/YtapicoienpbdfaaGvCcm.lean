/- Plain words of layer 6: a message's content, closed and read. No program in sight. -/
import Derived.Test.YtapicoienpbdfaaGvRapsRead
namespace Go.Proofs.Ytapicoienpbdfaa.Gv
open Go.RowKit Go.Proofs.YtapicoienpbdfaaW.PrintWords
set_option linter.unusedVariables false

/-- What is wrong with a message. -/
def ccmWrong (p e : Int) (n : Nat) : Int := if 1 ≤ p ∧ p ≤ 7 ∧ 1 ≤ e ∧ e ≤ 8191 then (if n = 48 then 0 else 3) else 4
def ccmBody (c e : Int) (g : ByteArray) : ByteArray := (strOfNums (packB (bitsOf 32 c) ++ packB (bitsOf 16 e)) ++ g) ++ strOfNums (List.replicate 16 0)
theorem ccmHead_size (c e : Int) : (strOfNums (packB (bitsOf 32 c) ++ packB (bitsOf 16 e))).size = 6 := by
  rw [strOfNums_size, List.length_append, packB_length, packB_length, bitsOf_length, bitsOf_length]
theorem ccmBody_size (c e : Int) (g : ByteArray) : (ccmBody c e g).size = 22 + g.size := by
  unfold ccmBody
  rw [ByteArray.size_append, ByteArray.size_append, ccmHead_size, strOfNums_size, List.length_replicate]
  omega
theorem pack_ccm (c e : Int) (hc0 : 0 ≤ c) (hc1 : c ≤ 4294967295) (he0 : 0 ≤ e) (he1 : e ≤ 65535) : pack [(32, c), (16, e)] = some (strOfNums (packB (bitsOf 32 c) ++ packB (bitsOf 16 e)), 0) := by
  have p32 : (2 : Int) ^ (32 : Int).toNat = 4294967296 := by decide
  have p16 : (2 : Int) ^ (16 : Int).toNat = 65536 := by decide
  have hu : isU64 [((32 : Int), c), (16, e)] = true := by
    simp only [isU64, List.all_cons, List.all_nil, Bool.and_true, Bool.and_eq_true, decide_eq_true_eq]; unfold u64max; omega
  have hok : [((32 : Int), c), (16, e)].all okPart = true := by
    simp only [List.all_cons, List.all_nil, okPart, p32, p16, Bool.and_true, Bool.and_eq_true, Bool.or_eq_true, decide_eq_true_eq]
    exact ⟨⟨by omega, .inr (by omega)⟩, ⟨by omega, .inr (by omega)⟩⟩
  have hbits : allBits [((32 : Int), c), (16, e)] = bitsOf 32 c ++ bitsOf 16 e := by
    simp only [allBits, List.flatMap_cons, List.flatMap_nil, List.append_nil]; rfl
  unfold pack
  rw [if_pos ⟨hu, by simp⟩, if_pos hok, hbits, if_pos (by rw [List.length_append, bitsOf_length, bitsOf_length]), packB_whole 4 _ _ (bitsOf_bits _ _) (bitsOf_length _ _)]
  rfl
theorem pack_four (n : Int) (h0 : 0 ≤ n) (h1 : n ≤ 4294967295) : pack [(32, n)] = some (strOfNums (packB (bitsOf 32 n)), 0) := by
  have p32 : (2 : Int) ^ (32 : Int).toNat = 4294967296 := by decide
  have hu : isU64 [((32 : Int), n)] = true := by
    simp only [isU64, List.all_cons, List.all_nil, Bool.and_true, Bool.and_eq_true, decide_eq_true_eq]; unfold u64max; omega
  have hok : [((32 : Int), n)].all okPart = true := by
    simp only [List.all_cons, List.all_nil, okPart, p32, Bool.and_true, Bool.and_eq_true, Bool.or_eq_true, decide_eq_true_eq]
    exact ⟨by omega, .inr (by omega)⟩
  have hbits : allBits [((32 : Int), n)] = bitsOf 32 n := by
    simp only [allBits, List.flatMap_cons, List.flatMap_nil, List.append_nil]; rfl
  unfold pack
  rw [if_pos ⟨hu, by simp⟩, if_pos hok, hbits, if_pos (by rw [bitsOf_length])]
  rfl
theorem split_ccm (c : ByteArray) (h : 6 ≤ c.size) : split c [32, 3, 13] = ([numOf c 0 4, numOf c 4 2 / 8192, numOf c 4 2 % 8192], c.extract 6 c.size, 0) := by
  have e1 : okW [32, 3, 13] = true := by decide
  have e2 : sumW [32, 3, 13] = 48 := by decide
  unfold split
  rw [if_pos e1, e2, if_pos (by decide), if_neg (by omega)]
  have r0 := numOf_range c 0 4 (by omega); have r1 := numOf_range c 4 2 (by omega)
  have c0 := num_cut c 0 4 (by omega); have c1 := num_cut c 4 2 (by omega)
  have p32 : (2 : Int) ^ (8 * 4) = 4294967296 := by decide
  have p16 : (2 : Int) ^ (8 * 2) = 65536 := by decide
  rw [p32] at r0
  rw [p16] at r1
  rw [Nat.mul_zero, List.drop_zero] at c0
  have d1 : bitsOf (8 * 2) (numOf c 4 2) = bitsOf 3 (numOf c 4 2 / 8192) ++ bitsOf 13 (numOf c 4 2) := by
    have a1 := bitsOf_add 3 13 (numOf c 4 2)
    rwa [show (2 : Int) ^ 13 = 8192 from by decide] at a1
  have e4 : vals (sBits c) [32, 3, 13] = [numOf c 0 4, numOf c 4 2 / 8192, numOf c 4 2 % 8192] := by
    rw [c0, c1, d1]
    simp only [List.append_assoc]
    rw [show ([32, 3, 13] : List Int) = ((8 * 4 : Nat) : Int) :: ((3 : Nat) : Int) :: ((13 : Nat) : Int) :: [] from rfl]
    rw [vals_cons, vals_cons, vals_cons, vals_none, p32]
    rw [show (2 : Int) ^ 3 = 8 from by decide, show (2 : Int) ^ 13 = 8192 from by decide]
    rw [Int.emod_eq_of_lt r0.1 r0.2, Int.emod_eq_of_lt (a := numOf c 4 2 / 8192) (by omega) (by omega)]
  rw [e4]
  rfl
/-- Nothing, and what is wrong. -/
def ccmNone (e : Int) : Bool × Int × Int × Int × ByteArray × Int := (false, 0, 0, 0, ⟨#[]⟩, e)
/-- A message's content, read. -/
def ccmRead (f : Int) (c : ByteArray) : Bool × Int × Int × Int × ByteArray × Int :=
  if numOf c 4 2 < 8192 ∧ f / 8 % 16 = 0 ∧ c.extract 54 c.size = strOfNums (List.replicate 16 0) then
    (if f % 8 ≠ 0 ∧ numOf c 4 2 ≠ 0 then (f / 128 == 1, f % 8, numOf c 0 4, numOf c 4 2, c.extract 6 54, 0) else ccmNone 4)
  else ccmNone 3
theorem ccm_there (l : Bool) (p c e : Int) (g : ByteArray) (hc0 : 0 ≤ c) (hc1 : c ≤ 4294967295) (h : ccmWrong p e g.size = 0) : ccmRead (p + bi l * 128) (ccmBody c e g) = (l, p, c, e, g, 0) := by
  have hb := bi_range l
  have hw : (1 ≤ p ∧ p ≤ 7 ∧ 1 ≤ e ∧ e ≤ 8191) ∧ g.size = 48 := by
    unfold ccmWrong at h
    by_cases h1 : 1 ≤ p ∧ p ≤ 7 ∧ 1 ≤ e ∧ e ≤ 8191
    · rw [if_pos h1] at h
      by_cases h2 : g.size = 48
      · exact ⟨h1, h2⟩
      · rw [if_neg h2] at h; omega
    · rw [if_neg h1] at h; omega
  have hs := split_pack [(32, c), (16, e)] (by
      simp only [List.all_cons, List.all_nil, okPart, show (2 : Int) ^ (32 : Int).toNat = 4294967296 from by decide, show (2 : Int) ^ (16 : Int).toNat = 65536 from by decide, Bool.and_true, Bool.and_eq_true, Bool.or_eq_true, decide_eq_true_eq]
      exact ⟨⟨by omega, .inr (by omega)⟩, ⟨by omega, .inr (by omega)⟩⟩) (by
      simp only [isU64, List.all_cons, List.all_nil, Bool.and_true, Bool.and_eq_true, decide_eq_true_eq]; unfold u64max; omega) (by simp only [allBits, List.flatMap_cons, List.flatMap_nil, List.append_nil, List.length_append, bitsOf_length]; rfl) (g ++ strOfNums (List.replicate 16 0))
  have hab : allBits [((32 : Int), c), (16, e)] = bitsOf 32 c ++ bitsOf 16 e := by
    simp only [allBits, List.flatMap_cons, List.flatMap_nil, List.append_nil]; rfl
  rw [hab, packB_whole 4 _ _ (bitsOf_bits _ _) (bitsOf_length _ _), ← ByteArray.append_assoc] at hs
  have hsz := ccmBody_size c e g
  have hpl : (packB (bitsOf 32 c) ++ packB (bitsOf 16 e)).length = 6 := by rw [List.length_append, packB_length, packB_length, bitsOf_length, bitsOf_length]
  have hby : bytesOf (ccmBody c e g) = (packB (bitsOf 32 c) ++ packB (bitsOf 16 e)) ++ (bytesOf g ++ List.replicate 16 0) := by
    unfold ccmBody
    rw [bytesOf_append, bytesOf_append, List.append_assoc]
    rw [bytesOf_str (packB (bitsOf 32 c) ++ packB (bitsOf 16 e)) (by
      intro x hx
      rcases List.mem_append.1 hx with hx | hx
      · exact packB_range (bitsOf_bits _ _) x hx
      · exact packB_range (bitsOf_bits _ _) x hx)]
    rw [bytesOf_str (List.replicate 16 0) (by intro x hx; have := (List.mem_replicate.1 hx).2; omega)]
  change split (ccmBody c e g) [32, 16] = _ at hs
  have hgl : (bytesOf g).length = 48 := by rw [bytesOf_length]; exact hw.2
  generalize ccmBody c e g = x at hs hsz hby
  have n0 : numOf x 0 4 = c := by
    unfold numOf sBits
    rw [flat_drop, hby, List.drop_zero, List.append_assoc, List.flatMap_append, packB_flat 4 _ (bitsOf_bits _ _) (bitsOf_length _ _), List.take_append_of_le_length (by rw [bitsOf_length]; exact Nat.le_refl _), List.take_of_length_le (by rw [bitsOf_length]; exact Nat.le_refl _), valOf_bitsOf, show (2 : Int) ^ 32 = 4294967296 from by decide]
    omega
  have n1 : numOf x 4 2 = e := by
    unfold numOf sBits
    have h4 : (packB (bitsOf 32 c)).length = 4 := by rw [packB_length, bitsOf_length]
    rw [flat_drop, hby, List.append_assoc, List.drop_left' h4, List.flatMap_append, packB_flat 2 _ (bitsOf_bits _ _) (bitsOf_length _ _), List.take_append_of_le_length (by rw [bitsOf_length]; exact Nat.le_refl _), List.take_of_length_le (by rw [bitsOf_length]; exact Nat.le_refl _), valOf_bitsOf, show (2 : Int) ^ 16 = 65536 from by decide]
    omega
  have n2 : x.extract 6 54 = g := by
    apply bytesOf_inj
    rw [bytesOf_extract, hby, List.drop_take, List.drop_left' hpl, show 54 - 6 = 48 from rfl, List.take_left' hgl]
  have n3 : x.extract 54 x.size = strOfNums (List.replicate 16 0) := by
    apply bytesOf_inj
    rw [bytesOf_extract, List.take_of_length_le (by rw [bytesOf_length]; exact Nat.le_refl _), hby, ← List.append_assoc, List.drop_left' (by rw [List.length_append, hpl, hgl])]
    rw [bytesOf_str _ (by intro x hx; have := (List.mem_replicate.1 hx).2; omega)]
  unfold ccmRead
  rw [n0, n1, n2, n3, show (p + bi l * 128) / 8 % 16 = 0 from by omega, show (p + bi l * 128) % 8 = p from by omega, show (p + bi l * 128) / 128 = bi l from by omega]
  rw [if_pos ⟨by omega, rfl, rfl⟩, if_pos ⟨by omega, by omega⟩]
  have q : (bi l == 1) = l := by cases l <;> rfl
  rw [q]
theorem ccm_back (x : ByteArray) (h : x.size = 70) (h3 : x.extract 54 x.size = strOfNums (List.replicate 16 0)) : ccmBody (numOf x 0 4) (numOf x 4 2) (x.extract 6 54) = x := by
  have b0 := num_bytes x 0 4 (by omega); have b1 := num_bytes x 4 2 (by omega)
  unfold ccmBody
  rw [strOfNums_append, show (32 : Nat) = 8 * 4 from rfl, show (16 : Nat) = 8 * 2 from rfl, b0, b1]
  rw [show (8 * 2 : Nat) = 16 from rfl, ← h3]
  simp only [Nat.reduceAdd]
  rw [ext_join x 0 4 6 (by omega) (by omega) (by omega), ext_join x 0 6 54 (by omega) (by omega) (by omega), ext_join x 0 54 x.size (by omega) (by omega) (by omega), ext_whole]

end Go.Proofs.Ytapicoienpbdfaa.Gv
