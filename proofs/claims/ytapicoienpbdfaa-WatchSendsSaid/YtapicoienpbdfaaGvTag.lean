/- Plain words of layer 3: what is wrong with a frame, and its head's bytes. No program in sight. -/
import Derived.Test.YtapicoienpbdfaaGvBack
namespace Go.Proofs.Ytapicoienpbdfaa.Gv
open Go.RowKit Go.Proofs.YtapicoienpbdfaaW.PrintWords
set_option linter.unusedVariables false

/-- What is wrong with a frame. -/
def tagWrong (d s p v t : Int) (n : Nat) : Int :=
  if d < 281474976710656 ∧ s < 281474976710656 ∧ s / 1099511627776 % 2 = 0 then (if p ≤ 7 ∧ 1 ≤ v ∧ v ≤ 4094 then (if t < 1536 then 6 else if n > 1582 then 2 else 0) else 4) else 3
def bt1 (b : Bool) : Int := if b = true then 1 else 0
theorem bt1_range (b : Bool) : 0 ≤ bt1 b ∧ bt1 b ≤ 1 := by cases b <;> decide
/-- A frame's bytes ahead of its body. -/
def tagHead (d s p : Int) (b : Bool) (v t : Int) : ByteArray :=
  (((strOfNums (packB (bitsOf 48 d)) ++ strOfNums (packB (bitsOf 48 s))) ++ (⟨#[129, 0]⟩ : ByteArray)) ++ strOfNums (packB (bitsOf 16 (p * 8192 + v + bt1 b * 4096)))) ++ strOfNums (packB (bitsOf 16 t))
theorem tag_sizes (n : Int) : (strOfNums (packB (bitsOf 48 n))).size = 6 ∧ (strOfNums (packB (bitsOf 16 n))).size = 2 := by
  constructor <;> rw [strOfNums_size, packB_length, bitsOf_length]
theorem tagHead_size (d s p : Int) (b : Bool) (v t : Int) : (tagHead d s p b v t).size = 18 := by
  unfold tagHead
  simp only [ByteArray.size_append, (tag_sizes _).1, (tag_sizes _).2]
  rfl
def tagParts (d s p : Int) (b : Bool) (v t : Int) : List (Int × Int) := [(48, d), (48, s), (16, 33024), (3, p), (1, bt1 b), (12, v), (16, t)]
theorem tag_mark : packB (bitsOf 16 33024) = [129, 0] := by decide +kernel
theorem pack_tag (d s p : Int) (b : Bool) (v t : Int) (hd0 : 0 ≤ d) (hd1 : d < 281474976710656) (hs0 : 0 ≤ s) (hs1 : s < 281474976710656) (hp0 : 0 ≤ p) (hp1 : p ≤ 7) (hv0 : 0 ≤ v) (hv1 : v ≤ 4095) (ht0 : 0 ≤ t) (ht1 : t ≤ 65535) :
    pack (tagParts d s p b v t) = some (tagHead d s p b v t, 0) := by
  have p48 : (2 : Int) ^ (48 : Int).toNat = 281474976710656 := by decide
  have p16 : (2 : Int) ^ (16 : Int).toNat = 65536 := by decide
  have p3 : (2 : Int) ^ (3 : Int).toNat = 8 := by decide
  have p1 : (2 : Int) ^ (1 : Int).toNat = 2 := by decide
  have p12 : (2 : Int) ^ (12 : Int).toNat = 4096 := by decide
  have hb := bt1_range b
  have hu : isU64 (tagParts d s p b v t) = true := by
    simp only [tagParts, isU64, List.all_cons, List.all_nil, Bool.and_true, Bool.and_eq_true, decide_eq_true_eq]; unfold u64max; omega
  have hok : (tagParts d s p b v t).all okPart = true := by
    simp only [tagParts, List.all_cons, List.all_nil, okPart, p48, p16, p3, p1, p12, Bool.and_true, Bool.and_eq_true, Bool.or_eq_true, decide_eq_true_eq]
    refine ⟨⟨by omega, .inr (by omega)⟩, ⟨by omega, .inr (by omega)⟩, ⟨by omega, .inr (by omega)⟩, ⟨by omega, .inr (by omega)⟩, ⟨by omega, .inr (by omega)⟩, ⟨by omega, .inr (by omega)⟩, ⟨by omega, .inr (by omega)⟩⟩
  have hbits : allBits (tagParts d s p b v t) = bitsOf 48 d ++ (bitsOf 48 s ++ (bitsOf 16 33024 ++ (bitsOf 16 (p * 8192 + v + bt1 b * 4096) ++ bitsOf 16 t))) := by
    have q12 : (2 : Int) ^ 12 = 4096 := by decide
    have q1 : (2 : Int) ^ 1 = 2 := by decide
    have e1 := bitsOf_join 3 1 p (bt1 b) (by omega) (by rw [q1]; omega)
    have e2 := bitsOf_join 4 12 (p * 2 ^ 1 + bt1 b) v hv0 (by rw [q12]; omega)
    rw [q1] at e1 e2
    rw [q12] at e2
    rw [show (p * 2 + bt1 b) * 4096 + v = p * 8192 + v + bt1 b * 4096 from by omega] at e2
    have e3 : bitsOf 16 (p * 8192 + v + bt1 b * 4096) = bitsOf 3 p ++ (bitsOf 1 (bt1 b) ++ bitsOf 12 v) := by
      rw [← List.append_assoc]
      exact e2.symm.trans (by rw [← e1])
    rw [e3]
    simp only [tagParts, allBits, List.flatMap_cons, List.flatMap_nil, List.append_nil, List.append_assoc]
    rfl
  have hlen : (allBits (tagParts d s p b v t)).length % 8 = 0 := by
    rw [hbits]; simp only [List.length_append, bitsOf_length]
  unfold pack
  rw [if_pos ⟨hu, by simp [tagParts]⟩, if_pos hok, if_pos hlen, hbits]
  rw [packB_whole 6 _ _ (bitsOf_bits _ _) (bitsOf_length _ _), packB_whole 6 _ _ (bitsOf_bits _ _) (bitsOf_length _ _), packB_whole 2 _ _ (bitsOf_bits _ _) (bitsOf_length _ _), packB_whole 2 _ _ (bitsOf_bits _ _) (bitsOf_length _ _), tag_mark]
  have e : tagHead d s p b v t = strOfNums (packB (bitsOf 48 d) ++ (packB (bitsOf 48 s) ++ ([129, 0] ++ (packB (bitsOf 16 (p * 8192 + v + bt1 b * 4096)) ++ packB (bitsOf 16 t))))) := by
    unfold tagHead
    rw [strOfNums_append, strOfNums_append, strOfNums_append, strOfNums_append, ← ByteArray.append_assoc, ← ByteArray.append_assoc, ← ByteArray.append_assoc]
    rfl
  rw [e]
  rfl
theorem pack_two (n : Int) (h0 : 0 ≤ n) (h1 : n ≤ 65535) : pack [(16, n)] = some (strOfNums (packB (bitsOf 16 n)), 0) := by
  have p16 : (2 : Int) ^ (16 : Int).toNat = 65536 := by decide
  have hu : isU64 [((16 : Int), n)] = true := by
    simp only [isU64, List.all_cons, List.all_nil, Bool.and_true, Bool.and_eq_true, decide_eq_true_eq]; unfold u64max; omega
  have hok : [((16 : Int), n)].all okPart = true := by
    simp only [List.all_cons, List.all_nil, okPart, p16, Bool.and_true, Bool.and_eq_true, Bool.or_eq_true, decide_eq_true_eq]
    exact ⟨by omega, .inr (by omega)⟩
  have hbits : allBits [((16 : Int), n)] = bitsOf 16 n := by
    simp only [allBits, List.flatMap_cons, List.flatMap_nil, List.append_nil]; rfl
  unfold pack
  rw [if_pos ⟨hu, by simp⟩, if_pos hok, hbits, if_pos (by rw [bitsOf_length])]
  rfl
theorem pack_six (n : Int) (h0 : 0 ≤ n) (h1 : n < 281474976710656) : pack [(48, n)] = some (strOfNums (packB (bitsOf 48 n)), 0) := by
  have p48 : (2 : Int) ^ (48 : Int).toNat = 281474976710656 := by decide
  have hu : isU64 [((48 : Int), n)] = true := by
    simp only [isU64, List.all_cons, List.all_nil, Bool.and_true, Bool.and_eq_true, decide_eq_true_eq]; unfold u64max; omega
  have hok : [((48 : Int), n)].all okPart = true := by
    simp only [List.all_cons, List.all_nil, okPart, p48, Bool.and_true, Bool.and_eq_true, Bool.or_eq_true, decide_eq_true_eq]
    exact ⟨by omega, .inr (by omega)⟩
  have hbits : allBits [((48 : Int), n)] = bitsOf 48 n := by
    simp only [allBits, List.flatMap_cons, List.flatMap_nil, List.append_nil]; rfl
  unfold pack
  rw [if_pos ⟨hu, by simp⟩, if_pos hok, hbits, if_pos (by rw [bitsOf_length])]
  rfl

end Go.Proofs.Ytapicoienpbdfaa.Gv
