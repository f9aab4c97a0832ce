/- Plain words on strings of bytes as lists of numbers. No program in sight. -/
import Derived.Test.YtkjjdphlfbecdaaGvSplit
namespace Go.Proofs.Ytkjjdphlfbecdaa.Gv
open Go.RowKit Go.Proofs.YtkjjdphlfbecdaaW.PrintWords
set_option linter.unusedVariables false

theorem bytesOf_inj {s t : ByteArray} (h : bytesOf s = bytesOf t) : s = t := by rw [← strOfNums_bytesOf s, ← strOfNums_bytesOf t, h]
theorem bytesOf_str (l : List Int) (h : ∀ b ∈ l, 0 ≤ b ∧ b ≤ 255) : bytesOf (strOfNums l) = l := by
  unfold bytesOf strOfNums
  simp only [List.map_map]
  have : ∀ b ∈ l, ((fun b : UInt8 => (b.toNat : Int)) ∘ fun n : Int => UInt8.ofNat n.toNat) b = id b := by
    intro b hb
    have := h b hb
    simp only [Function.comp, id]
    have e : (UInt8.ofNat b.toNat).toNat = b.toNat := by
      rw [UInt8.toNat_ofNat']
      omega
    rw [e]; omega
  rw [List.map_congr_left this, List.map_id]
theorem bytesOf_append (s t : ByteArray) : bytesOf (s ++ t) = bytesOf s ++ bytesOf t := by
  unfold bytesOf
  simp
theorem bytesOf_empty : bytesOf (⟨#[]⟩ : ByteArray) = [] := rfl
theorem bytesOf_extract (s : ByteArray) (a b : Nat) : bytesOf (s.extract a b) = ((bytesOf s).take b).drop a := by
  unfold bytesOf
  rw [← List.map_take, ← List.map_drop]
  congr 1
  simp [ByteArray.extract, ByteArray.copySlice, List.drop_take]
theorem bt_get (s : ByteArray) (i : Int) : bt s i = (bytesOf s).getD i.toNat 0 := (rd_bytesOf s i).symm
/-- A string's first bytes by name. -/
theorem bytesOf_head (s : ByteArray) (m : Nat) (h : m ≤ s.size) : bytesOf s = ((List.range m).map fun i => bt s (i : Nat)) ++ (bytesOf s).drop m := by
  have e : (List.range m).map (fun i => bt s ((i : Nat) : Int)) = (bytesOf s).take m := by
    apply List.ext_getElem
    · simp [bytesOf_length]; omega
    · intro i h1 h2
      have hi : i < (bytesOf s).length := by rw [bytesOf_length]; simp at h1; omega
      simp only [List.getElem_map, List.getElem_range, List.getElem_take]
      rw [bt_get, Int.toNat_natCast, List.getD_eq_getElem?_getD, List.getElem?_eq_getElem hi]
      rfl
  rw [e, List.take_append_drop]
theorem sBits_cons {s : ByteArray} {l : List Int} (h : bytesOf s = l) : sBits s = l.flatMap fun b => bitsOf 8 b := by unfold sBits; rw [h]
theorem flat_cons (b : Int) (l : List Int) : ((b :: l).flatMap fun b => bitsOf 8 b) = bitsOf 8 b ++ l.flatMap fun b => bitsOf 8 b := rfl
theorem vals_cons (w : Nat) (v : Int) (rest : List Int) (ws : List Int) : vals (bitsOf w v ++ rest) ((w : Int) :: ws) = v % 2 ^ w :: vals rest ws := by
  simp only [vals, Int.toNat_natCast]
  rw [List.take_append_of_le_length (by rw [bitsOf_length]; exact Nat.le_refl _), List.take_of_length_le (by rw [bitsOf_length]; exact Nat.le_refl _), valOf_bitsOf, List.drop_append_of_le_length (by rw [bitsOf_length]; exact Nat.le_refl _), List.drop_of_length_le (by rw [bitsOf_length]; exact Nat.le_refl _), List.nil_append]
theorem vals_none (l : List Int) : vals l [] = [] := rfl
/-- Two numbers behind each other. -/
theorem bitsOf_join (m n : Nat) (a b : Int) (h0 : 0 ≤ b) (h1 : b < 2 ^ n) : bitsOf m a ++ bitsOf n b = bitsOf (m + n) (a * 2 ^ n + b) := by
  have hp : (0 : Int) < 2 ^ n := Int.pow_pos (by decide)
  rw [bitsOf_add]
  have e1 : (a * 2 ^ n + b) / 2 ^ n = a := by
    rw [Int.add_comm, Int.add_mul_ediv_right _ _ (Int.ne_of_gt hp), Int.ediv_eq_zero_of_lt h0 h1]; omega
  have e2 : bitsOf n (a * 2 ^ n + b) = bitsOf n b := by
    rw [← bitsOf_mod n (a * 2 ^ n + b), Int.add_comm, Int.add_mul_emod_self_right, bitsOf_mod]
  rw [e1, e2]
theorem bitsOf_8 (v : Int) (w : Nat) : bitsOf (w + 8) v = bitsOf w (v / 256) ++ bitsOf 8 v := by
  rw [bitsOf_add]; rfl
theorem packB_last (b : Int) : packB (bitsOf 8 b) = [b % 256] := by
  have := packB_byte b []
  rwa [List.append_nil] at this
theorem strOfNums_append (l m : List Int) : strOfNums (l ++ m) = strOfNums l ++ strOfNums m := by
  unfold strOfNums
  apply ByteArray.ext
  simp
theorem size_bytesOf (s : ByteArray) : s.size = (bytesOf s).length := (bytesOf_length s).symm

end Go.Proofs.Ytkjjdphlfbecdaa.Gv
