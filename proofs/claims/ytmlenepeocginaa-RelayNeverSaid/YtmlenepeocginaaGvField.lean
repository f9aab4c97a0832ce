/- Plain words on bits and bytes: the bytes of a list of bits, and what one bit more makes of them. No program in sight. -/
import Derived.Test.YtmlenepeocginaaProg
import Derived.WalkKit
namespace Go.Proofs.Ytmlenepeocginaa.Gv
open Go.RowKit

/-- The bits of a value, the highest first. -/
def bitsOf (w : Nat) (v : Int) : List Int := (List.range w).map fun i => v / 2 ^ (w - 1 - i) % 2
/-- A byte out of up to eight bits, the rest 0. -/
def byteVal (l : List Int) : Int := l.getD 0 0 * 128 + l.getD 1 0 * 64 + l.getD 2 0 * 32 + l.getD 3 0 * 16 + l.getD 4 0 * 8 + l.getD 5 0 * 4 + l.getD 6 0 * 2 + l.getD 7 0
def packB (l : List Int) : List Int := (List.range ((l.length + 7) / 8)).map fun j => byteVal (l.drop (8 * j))
def IsBits (l : List Int) : Prop := ∀ b ∈ l, b = 0 ∨ b = 1
def u64max : Int := 18446744073709551615
def okPart (p : Int × Int) : Bool := decide (1 ≤ p.1) && decide (p.1 ≤ 64) && (decide (64 ≤ p.1) || decide (p.2 / 2 ^ p.1.toNat = 0))
def allBits (l : List (Int × Int)) : List Int := l.flatMap fun p => bitsOf p.1.toNat p.2
def isU64 (l : List (Int × Int)) : Bool := l.all fun p => decide (0 ≤ p.2) && decide (p.2 ≤ u64max)
/-- The bytes of a list of numbers below 256. -/
def ofNums (l : List Int) : ByteArray := ⟨(l.map fun n => UInt8.ofNat n.toNat).toArray⟩
/-- What Pack comes to. -/
def pack (l : List (Int × Int)) : Option (ByteArray × Int) :=
  if isU64 l = true ∧ l.length ≤ 1000000 then
    if l.all okPart = true then
      if (allBits l).length % 8 = 0 then some (ofNums (packB (allBits l)), 0) else some (ByteArray.empty, 3)
    else some (ByteArray.empty, 4)
  else none

theorem bitsOf_length (w : Nat) (v : Int) : (bitsOf w v).length = w := by simp [bitsOf]
theorem mod2 (v : Int) : v % 2 = 0 ∨ v % 2 = 1 := by omega
theorem bitsOf_bits (w : Nat) (v : Int) : IsBits (bitsOf w v) := by
  intro b hb
  simp only [bitsOf, List.mem_map] at hb
  obtain ⟨i, _, rfl⟩ := hb
  exact mod2 _
theorem packB_length (l : List Int) : (packB l).length = (l.length + 7) / 8 := by simp [packB]
theorem getD_append_lt (l : List Int) (b : Int) (i : Nat) (h : i < l.length) : (l ++ [b]).getD i 0 = l.getD i 0 := by
  simp [List.getD_eq_getElem?_getD, List.getElem?_append_left h]
theorem getD_bit {l : List Int} (h : IsBits l) (i : Nat) : l.getD i 0 = 0 ∨ l.getD i 0 = 1 := by
  rw [List.getD_eq_getElem?_getD]
  by_cases hi : i < l.length
  · rw [List.getElem?_eq_getElem hi]; exact h _ (List.getElem_mem hi)
  · rw [List.getElem?_eq_none (by omega)]; exact .inl rfl
theorem byteVal_range {l : List Int} (h : IsBits l) : 0 ≤ byteVal l ∧ byteVal l ≤ 255 := by
  unfold byteVal
  have h0 := getD_bit h 0; have h1 := getD_bit h 1; have h2 := getD_bit h 2; have h3 := getD_bit h 3
  have h4 := getD_bit h 4; have h5 := getD_bit h 5; have h6 := getD_bit h 6; have h7 := getD_bit h 7
  omega
theorem IsBits.drop {l : List Int} (h : IsBits l) (k : Nat) : IsBits (l.drop k) := fun b hb => h b (List.mem_of_mem_drop hb)
theorem IsBits.append {l m : List Int} (h : IsBits l) (k : IsBits m) : IsBits (l ++ m) := fun b hb => (List.mem_append.1 hb).elim (h b) (k b)
theorem packB_range {l : List Int} (h : IsBits l) : ∀ n ∈ packB l, 0 ≤ n ∧ n ≤ 255 := by
  intro n hn
  simp only [packB, List.mem_map] at hn
  obtain ⟨j, _, rfl⟩ := hn
  exact byteVal_range (h.drop _)
theorem packB_get (l : List Int) (j : Nat) (h : j < (l.length + 7) / 8) : (packB l).getD j 0 = byteVal (l.drop (8 * j)) := by
  have hj : j < (packB l).length := by rw [packB_length]; exact h
  rw [List.getD_eq_getElem?_getD, List.getElem?_eq_getElem hj]
  simp [packB]

theorem getD_drop' (l : List Int) (k i : Nat) : (l.drop k).getD i 0 = l.getD (k + i) 0 := by
  simp [List.getD_eq_getElem?_getD, List.getElem?_drop]

/-- A bit more in a byte that has place. -/
theorem byteVal_snoc (l : List Int) (b : Int) (h : l.length < 8) : byteVal (l ++ [b]) = byteVal l + b * 2 ^ (7 - l.length) := by
  have e : ∀ i, (l ++ [b]).getD i 0 = l.getD i 0 + if i = l.length then b else 0 := by
    intro i
    simp only [List.getD_eq_getElem?_getD]
    by_cases hi : i < l.length
    · rw [List.getElem?_append_left hi, if_neg (by omega)]; omega
    · by_cases hi2 : i = l.length
      · subst hi2; simp
      · rw [List.getElem?_eq_none (by simp; omega), List.getElem?_eq_none (by omega), if_neg hi2]; rfl
  unfold byteVal
  simp only [e]
  have hc : l.length = 0 ∨ l.length = 1 ∨ l.length = 2 ∨ l.length = 3 ∨ l.length = 4 ∨ l.length = 5 ∨ l.length = 6 ∨ l.length = 7 := by omega
  rcases hc with hc | hc | hc | hc | hc | hc | hc | hc <;> rw [hc] <;> simp <;> omega

/-- Bytes further on than the last bit don't hang on it. -/
theorem byteVal_far (l : List Int) (b : Int) (h : 8 ≤ l.length) : byteVal (l ++ [b]) = byteVal l := by
  unfold byteVal
  rw [getD_append_lt _ _ 0 (by omega), getD_append_lt _ _ 1 (by omega), getD_append_lt _ _ 2 (by omega), getD_append_lt _ _ 3 (by omega), getD_append_lt _ _ 4 (by omega), getD_append_lt _ _ 5 (by omega), getD_append_lt _ _ 6 (by omega), getD_append_lt _ _ 7 (by omega)]

/-- One bit more. -/
theorem packB_snoc (l : List Int) (b : Int) :
    packB (l ++ [b]) = ((if l.length % 8 = 0 then packB l ++ [0] else packB l).set (l.length / 8)
      ((if l.length % 8 = 0 then packB l ++ [0] else packB l).getD (l.length / 8) 0 + b * 2 ^ (7 - l.length % 8))) := by
  have hlen : (packB (l ++ [b])).length = (l.length + 8) / 8 := by rw [packB_length, List.length_append]; rfl
  apply List.ext_getElem?
  intro j
  by_cases hj : j < (l.length + 8) / 8
  · have g1 : (packB (l ++ [b]))[j]? = some (byteVal ((l ++ [b]).drop (8 * j))) := by
      rw [List.getElem?_eq_getElem (by rw [hlen]; exact hj)]; simp [packB]
    rw [g1, List.drop_append_of_le_length (by omega)]
    by_cases hm : l.length % 8 = 0
    · simp only [if_pos hm]
      have hpl : (packB l).length = l.length / 8 := by rw [packB_length]; omega
      by_cases hj2 : j = l.length / 8
      · subst hj2
        rw [List.getElem?_set_self (by simp; omega)]
        have e1 : l.drop (8 * (l.length / 8)) = [] := List.drop_eq_nil_of_le (by omega)
        rw [e1, byteVal_snoc [] b (by simp)]
        have e2 : (packB l ++ [0]).getD (l.length / 8) 0 = 0 := by
          rw [List.getD_eq_getElem?_getD, List.getElem?_append_right (by omega), hpl]; simp
        rw [e2, hm]; simp [byteVal]
      · rw [List.getElem?_set_ne (by omega), List.getElem?_append_left (by omega), List.getElem?_eq_getElem (by omega)]
        rw [byteVal_far _ _ (by simp; omega)]
        simp [packB]
    · simp only [if_neg hm]
      have hpl : (packB l).length = l.length / 8 + 1 := by rw [packB_length]; omega
      by_cases hj2 : j = l.length / 8
      · subst hj2
        rw [List.getElem?_set_self (by omega), packB_get _ _ (by omega), byteVal_snoc _ _ (by simp; omega)]
        have e3 : (l.drop (8 * (l.length / 8))).length = l.length % 8 := by simp; omega
        rw [e3]
      · rw [List.getElem?_set_ne (by omega), List.getElem?_eq_getElem (by omega), byteVal_far _ _ (by simp; omega)]
        simp [packB]
  · rw [List.getElem?_eq_none (by omega), List.getElem?_eq_none]
    rw [List.length_set]
    split
    · simp [packB_length]; omega
    · rw [packB_length]; omega

/-- The byte that a bit goes into has 0 from there on. -/
theorem packB_low (l : List Int) (h : l.length % 8 ≠ 0) : (packB l).getD (l.length / 8) 0 % 2 ^ (8 - l.length % 8) = 0 := by
  rw [packB_get _ _ (by omega)]
  have e3 : (l.drop (8 * (l.length / 8))).length = l.length % 8 := by simp; omega
  generalize l.drop (8 * (l.length / 8)) = m at e3
  rw [← e3]
  have h8 : m.length < 8 := by omega
  have hz : ∀ i, m.length ≤ i → m.getD i 0 = 0 := fun i hi => by rw [List.getD_eq_getElem?_getD, List.getElem?_eq_none hi]; rfl
  unfold byteVal
  have hc : m.length = 1 ∨ m.length = 2 ∨ m.length = 3 ∨ m.length = 4 ∨ m.length = 5 ∨ m.length = 6 ∨ m.length = 7 := by omega
  rcases hc with hc | hc | hc | hc | hc | hc | hc
  · rw [hz 1 (by omega), hz 2 (by omega), hz 3 (by omega), hz 4 (by omega), hz 5 (by omega), hz 6 (by omega), hz 7 (by omega), hc]; simp
  · rw [hz 2 (by omega), hz 3 (by omega), hz 4 (by omega), hz 5 (by omega), hz 6 (by omega), hz 7 (by omega), hc]; simp; omega
  · rw [hz 3 (by omega), hz 4 (by omega), hz 5 (by omega), hz 6 (by omega), hz 7 (by omega), hc]; simp; omega
  · rw [hz 4 (by omega), hz 5 (by omega), hz 6 (by omega), hz 7 (by omega), hc]; simp; omega
  · rw [hz 5 (by omega), hz 6 (by omega), hz 7 (by omega), hc]; simp; omega
  · rw [hz 6 (by omega), hz 7 (by omega), hc]; simp; omega
  · rw [hz 7 (by omega), hc]; simp; omega

end Go.Proofs.Ytmlenepeocginaa.Gv
