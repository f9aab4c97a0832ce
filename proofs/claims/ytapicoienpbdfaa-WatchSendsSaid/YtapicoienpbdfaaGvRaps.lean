/- Plain words of layer 5: what is wrong with a message, and its bytes. No program in sight. -/
import Derived.Test.YtapicoienpbdfaaGvBack
namespace Go.Proofs.Ytapicoienpbdfaa.Gv
open Go.RowKit Go.Proofs.YtapicoienpbdfaaW.PrintWords
set_option linter.unusedVariables false

/-- What is wrong with a message. -/
def rapsWrong (r : Int) (b : Bool) (n : Int) : Int :=
  if r = 0 ∨ r = 7 ∨ r = 11 ∨ r = 13 then (if b = true ∧ r ≠ 0 then 3 else if n < 281474976710656 ∧ n / 1099511627776 % 2 = 0 then 0 else 4) else 8
def bi (b : Bool) : Int := if b = true then 1 else 0
theorem bi_range (b : Bool) : 0 ≤ bi b ∧ bi b ≤ 1 := by cases b <;> decide
/-- A message's content. -/
def rapsBody (r : Int) (b k e : Bool) (n : Int) : ByteArray := (strOfNums [r * 16, bi b * 128 + bi k * 64 + bi e * 32] ++ strOfNums (packB (bitsOf 48 n))) ++ strOfNums (List.replicate 24 0)
theorem rapsBody_size (r : Int) (b k e : Bool) (n : Int) : (rapsBody r b k e n).size = 32 := by
  unfold rapsBody
  rw [ByteArray.size_append, ByteArray.size_append, strOfNums_size, strOfNums_size, strOfNums_size, packB_length, bitsOf_length]
  rfl
def rapsParts (r : Int) (b k e : Bool) (n : Int) : List (Int × Int) := [(4, r), (4, 0), (1, bi b), (1, bi k), (1, bi e), (5, 0), (48, n), (64, 0), (64, 0), (64, 0)]
theorem noughts_24 : packB (bitsOf 64 0 ++ (bitsOf 64 0 ++ bitsOf 64 0)) = List.replicate 24 0 := by decide +kernel
theorem bits_head (b k e : Bool) : bitsOf 1 (bi b) ++ (bitsOf 1 (bi k) ++ (bitsOf 1 (bi e) ++ bitsOf 5 0)) = bitsOf 8 (bi b * 128 + bi k * 64 + bi e * 32) := by
  cases b <;> cases k <;> cases e <;> decide +kernel
theorem pack_raps (r : Int) (b k e : Bool) (n : Int) (h0 : 0 ≤ r) (h1 : r ≤ 15) (hn0 : 0 ≤ n) (hn1 : n < 281474976710656) : pack (rapsParts r b k e n) = some (rapsBody r b k e n, 0) := by
  have p4 : (2 : Int) ^ (4 : Int).toNat = 16 := by decide
  have p1 : (2 : Int) ^ (1 : Int).toNat = 2 := by decide
  have p5 : (2 : Int) ^ (5 : Int).toNat = 32 := by decide
  have p48 : (2 : Int) ^ (48 : Int).toNat = 281474976710656 := by decide
  have hb := bi_range b
  have hk := bi_range k
  have he := bi_range e
  have hu : isU64 (rapsParts r b k e n) = true := by
    simp only [rapsParts, isU64, List.all_cons, List.all_nil, Bool.and_true, Bool.and_eq_true, decide_eq_true_eq]; unfold u64max; omega
  have hok : (rapsParts r b k e n).all okPart = true := by
    simp only [rapsParts, List.all_cons, List.all_nil, okPart, p4, p1, p5, p48, Bool.and_true, Bool.and_eq_true, Bool.or_eq_true, decide_eq_true_eq]
    have : n / 281474976710656 = 0 := by omega
    have : r / 16 = 0 := by omega
    have : bi b / 2 = 0 := by omega
    have : bi k / 2 = 0 := by omega
    have : bi e / 2 = 0 := by omega
    refine ⟨⟨by omega, .inr (by omega)⟩, ⟨by omega, .inr (by omega)⟩, ⟨by omega, .inr (by omega)⟩, ⟨by omega, .inr (by omega)⟩, ⟨by omega, .inr (by omega)⟩, ⟨by omega, .inr (by omega)⟩, ⟨by omega, .inr (by omega)⟩, ⟨by omega, .inl (by omega)⟩, ⟨by omega, .inl (by omega)⟩, ⟨by omega, .inl (by omega)⟩⟩
  have hbits : allBits (rapsParts r b k e n) = bitsOf 8 (r * 16) ++ (bitsOf 8 (bi b * 128 + bi k * 64 + bi e * 32) ++ (bitsOf 48 n ++ (bitsOf 64 0 ++ (bitsOf 64 0 ++ bitsOf 64 0)))) := by
    have h16 : (2 : Int) ^ 4 = 16 := by decide
    have e1 := bitsOf_join 4 4 r 0 (by omega) (by rw [h16]; omega)
    rw [h16, Int.add_zero] at e1
    have e2 := bits_head b k e
    rw [← e2, ← e1]
    simp only [rapsParts, allBits, List.flatMap_cons, List.flatMap_nil, List.append_nil, List.append_assoc]
    rfl
  have hlen : (allBits (rapsParts r b k e n)).length % 8 = 0 := by
    rw [hbits]; simp only [List.length_append, bitsOf_length]
  unfold pack
  rw [if_pos ⟨hu, by simp [rapsParts]⟩, if_pos hok, if_pos hlen, hbits, packB_byte, packB_byte, packB_whole 6 _ _ (bitsOf_bits _ _) (bitsOf_length _ _), noughts_24]
  rw [Int.emod_eq_of_lt (a := r * 16) (by omega) (by omega), Int.emod_eq_of_lt (a := bi b * 128 + bi k * 64 + bi e * 32) (by omega) (by omega)]
  have e : rapsBody r b k e n = strOfNums ([r * 16, bi b * 128 + bi k * 64 + bi e * 32] ++ packB (bitsOf 48 n) ++ List.replicate 24 0) := by
    unfold rapsBody
    rw [strOfNums_append, strOfNums_append]
  rw [e]
  simp only [List.cons_append, List.nil_append]
  rfl
theorem pack_addr (n : Int) (h0 : 0 ≤ n) (h1 : n < 281474976710656) : pack [(48, n)] = some (strOfNums (packB (bitsOf 48 n)), 0) := by
  have p48 : (2 : Int) ^ (48 : Int).toNat = 281474976710656 := by decide
  have hu : isU64 [((48 : Int), n)] = true := by
    simp only [isU64, List.all_cons, List.all_nil, Bool.and_true, Bool.and_eq_true, decide_eq_true_eq]; unfold u64max; omega
  have hok : [((48 : Int), n)].all okPart = true := by
    simp only [List.all_cons, List.all_nil, okPart, p48, Bool.and_true, Bool.and_eq_true, Bool.or_eq_true, decide_eq_true_eq]
    exact ⟨by omega, .inr (by omega)⟩
  have hbits : allBits [((48 : Int), n)] = bitsOf 48 n := by
    simp only [allBits, List.flatMap_cons, List.flatMap_nil, List.append_nil]; rfl
  unfold pack
  rw [if_pos ⟨hu, by simp⟩, if_pos hok, hbits, if_pos (by rw [bitsOf_length])]
  rfl

end Go.Proofs.Ytapicoienpbdfaa.Gv
