/- The words that this claim's texts use. -/
import Derived.Test.YtmdaaphjndjakafVRapsOpensa
import Derived.Test.YtmdaaphjndjakafProg
import Derived.WalkKit
import Derived.Lib.Strings
import Derived.Lib.Slices
import Derived.Lib.Walk
import Derived.Lib.Bytealg
import Derived.RegionTactic
import Derived.ChangeAlike
import Derived.BigRegion
import Derived.Lib.Hide
import Derived.Deep.LoopGhost
import Derived.ChangeSame
import Derived.ChangeArms
import Derived.Deep.Slices
import Derived.SizedLaws
namespace Go.Proofs.Ytmdaaphjndjakaf.Gv
open Go.RowKit

set_option maxHeartbeats 1000000 in
set_option maxRecDepth 100000 in
theorem stringslite_IndexByte (s : ByteArray) (c : Int) (w : World) :
    Calls Try.prog 65 #[.string s, .int .u8 c] w fun e w' => e = .returned (.int .i64 (Lib.indexByte s.data.toList c.toNat.toUInt8)) ∧ w' = w := by
  go_enter Try.func65, Try.ntmps65
  go_wp2
  rw [run_callFunc_extern Try.func77 (by kernel_rfl) (by kernel_rfl) (by kernel_rfl) (e := Extern.BytealgIndexByte.indexByte) (by kernel_rfl), Lib.run_indexByteString]
  simp only [Result.andThen]
  rw [Oper.upon_value]
  go_wp2
  go_ret
  exact ⟨rfl, rfl⟩

set_option maxHeartbeats 1000000 in
theorem strings_IndexByte (s : ByteArray) (c : Int) (w : World) :
    Calls Try.prog 40 #[.string s, .int .u8 c] w fun e w' => e = .returned (.int .i64 (Lib.indexByte s.data.toList c.toNat.toUInt8)) ∧ w' = w := by
  go_enter Try.func40, Try.ntmps40
  go_wp2_with (go_at_call 65; refine (stringslite_IndexByte _ _ _).mono ?_; rintro e w' ⟨rfl, rfl⟩)
  go_ret
  exact ⟨rfl, rfl⟩

end Go.Proofs.Ytmdaaphjndjakaf.Gv


namespace Go.Proofs.Ytmdaaphjndjakaf.Gv
open Go.RowKit

/-- The bits of a value, the highest first. -/
def bitsOf (w : Nat) (v : Int) : List Int := (List.range w).map fun i => v / 2 ^ (w - 1 - i) % 2
/-- A byte out of up to eight bits, the rest 0. -/
def byteVal (l : List Int) : Int := l.getD 0 0 * 128 + l.getD 1 0 * 64 + l.getD 2 0 * 32 + l.getD 3 0 * 16 + l.getD 4 0 * 8 + l.getD 5 0 * 4 + l.getD 6 0 * 2 + l.getD 7 0
def packB (l : List Int) : List Int := (List.range ((l.length + 7) / 8)).map fun j => byteVal (l.drop (8 * j))
def IsBits (l : List Int) : Prop := ∀ b ∈ l, b = 0 ∨ b = 1
def u64max : Int := 18446744073709551615
def okPart (p : Int × Int) : Bool := decide (1 ≤ p.1) && decide (p.1 ≤ 64) && (decide (64 ≤ p.1) || decide (p.2 / 2 ^ p.1.toNat = 0))
def allBits (l : List (Int × Int)) : List Int := l.flatMap fun p => bitsOf p.1.toNat p.2
def isU64 (l : List (Int × Int)) : Bool := l.all fun p => decide (0 ≤ p.2) && decide (p.2 ≤ u64max)
/-- The bytes of a list of numbers below 256. -/
def ofNums (l : List Int) : ByteArray := ⟨(l.map fun n => UInt8.ofNat n.toNat).toArray⟩
/-- What Pack comes to. -/
def pack (l : List (Int × Int)) : Option (ByteArray × Int) :=
  if isU64 l = true ∧ l.length ≤ 1000000 then
    if l.all okPart = true then
      if (allBits l).length % 8 = 0 then some (ofNums (packB (allBits l)), 0) else some (ByteArray.empty, 3)
    else some (ByteArray.empty, 4)
  else none

theorem bitsOf_length (w : Nat) (v : Int) : (bitsOf w v).length = w := by simp [bitsOf]
theorem mod2 (v : Int) : v % 2 = 0 ∨ v % 2 = 1 := by omega
theorem bitsOf_bits (w : Nat) (v : Int) : IsBits (bitsOf w v) := by
  intro b hb
  simp only [bitsOf, List.mem_map] at hb
  obtain ⟨i, _, rfl⟩ := hb
  exact mod2 _
theorem packB_length (l : List Int) : (packB l).length = (l.length + 7) / 8 := by simp [packB]
theorem getD_append_lt (l : List Int) (b : Int) (i : Nat) (h : i < l.length) : (l ++ [b]).getD i 0 = l.getD i 0 := by
  simp [List.getD_eq_getElem?_getD, List.getElem?_append_left h]
theorem getD_bit {l : List Int} (h : IsBits l) (i : Nat) : l.getD i 0 = 0 ∨ l.getD i 0 = 1 := by
  rw [List.getD_eq_getElem?_getD]
  by_cases hi : i < l.length
  · rw [List.getElem?_eq_getElem hi]; exact h _ (List.getElem_mem hi)
  · rw [List.getElem?_eq_none (by omega)]; exact .inl rfl
theorem byteVal_range {l : List Int} (h : IsBits l) : 0 ≤ byteVal l ∧ byteVal l ≤ 255 := by
  unfold byteVal
  have h0 := getD_bit h 0; have h1 := getD_bit h 1; have h2 := getD_bit h 2; have h3 := getD_bit h 3
  have h4 := getD_bit h 4; have h5 := getD_bit h 5; have h6 := getD_bit h 6; have h7 := getD_bit h 7
  omega
theorem IsBits.drop {l : List Int} (h : IsBits l) (k : Nat) : IsBits (l.drop k) := fun b hb => h b (List.mem_of_mem_drop hb)
theorem IsBits.append {l m : List Int} (h : IsBits l) (k : IsBits m) : IsBits (l ++ m) := fun b hb => (List.mem_append.1 hb).elim (h b) (k b)
theorem packB_range {l : List Int} (h : IsBits l) : ∀ n ∈ packB l, 0 ≤ n ∧ n ≤ 255 := by
  intro n hn
  simp only [packB, List.mem_map] at hn
  obtain ⟨j, _, rfl⟩ := hn
  exact byteVal_range (h.drop _)
theorem packB_get (l : List Int) (j : Nat) (h : j < (l.length + 7) / 8) : (packB l).getD j 0 = byteVal (l.drop (8 * j)) := by
  have hj : j < (packB l).length := by rw [packB_length]; exact h
  rw [List.getD_eq_getElem?_getD, List.getElem?_eq_getElem hj]
  simp [packB]

/-- A bit more in a byte that has place. -/
theorem byteVal_snoc (l : List Int) (b : Int) (h : l.length < 8) : byteVal (l ++ [b]) = byteVal l + b * 2 ^ (7 - l.length) := by
  have e : ∀ i, (l ++ [b]).getD i 0 = l.getD i 0 + if i = l.length then b else 0 := by
    intro i
    simp only [List.getD_eq_getElem?_getD]
    by_cases hi : i < l.length
    · rw [List.getElem?_append_left hi, if_neg (by omega)]; omega
    · by_cases hi2 : i = l.length
      · subst hi2; simp
      · rw [List.getElem?_eq_none (by simp; omega), List.getElem?_eq_none (by omega), if_neg hi2]; rfl
  unfold byteVal
  simp only [e]
  have hc : l.length = 0 ∨ l.length = 1 ∨ l.length = 2 ∨ l.length = 3 ∨ l.length = 4 ∨ l.length = 5 ∨ l.length = 6 ∨ l.length = 7 := by omega
  rcases hc with hc | hc | hc | hc | hc | hc | hc | hc <;> rw [hc] <;> simp <;> omega

/-- Bytes further on than the last bit don't hang on it. -/
theorem byteVal_far (l : List Int) (b : Int) (h : 8 ≤ l.length) : byteVal (l ++ [b]) = byteVal l := by
  unfold byteVal
  rw [getD_append_lt _ _ 0 (by omega), getD_append_lt _ _ 1 (by omega), getD_append_lt _ _ 2 (by omega), getD_append_lt _ _ 3 (by omega), getD_append_lt _ _ 4 (by omega), getD_append_lt _ _ 5 (by omega), getD_append_lt _ _ 6 (by omega), getD_append_lt _ _ 7 (by omega)]

/-- One bit more. -/
theorem packB_snoc (l : List Int) (b : Int) :
    packB (l ++ [b]) = ((if l.length % 8 = 0 then packB l ++ [0] else packB l).set (l.length / 8)
      ((if l.length % 8 = 0 then packB l ++ [0] else packB l).getD (l.length / 8) 0 + b * 2 ^ (7 - l.length % 8))) := by
  have hlen : (packB (l ++ [b])).length = (l.length + 8) / 8 := by rw [packB_length, List.length_append]; rfl
  apply List.ext_getElem?
  intro j
  by_cases hj : j < (l.length + 8) / 8
  · have g1 : (packB (l ++ [b]))[j]? = some (byteVal ((l ++ [b]).drop (8 * j))) := by
      rw [List.getElem?_eq_getElem (by rw [hlen]; exact hj)]; simp [packB]
    rw [g1, List.drop_append_of_le_length (by omega)]
    by_cases hm : l.length % 8 = 0
    · simp only [if_pos hm]
      have hpl : (packB l).length = l.length / 8 := by rw [packB_length]; omega
      by_cases hj2 : j = l.length / 8
      · subst hj2
        rw [List.getElem?_set_self (by simp; omega)]
        have e1 : l.drop (8 * (l.length / 8)) = [] := List.drop_eq_nil_of_le (by omega)
        rw [e1, byteVal_snoc [] b (by simp)]
        have e2 : (packB l ++ [0]).getD (l.length / 8) 0 = 0 := by
          rw [List.getD_eq_getElem?_getD, List.getElem?_append_right (by omega), hpl]; simp
        rw [e2, hm]; simp [byteVal]
      · rw [List.getElem?_set_ne (by omega), List.getElem?_append_left (by omega), List.getElem?_eq_getElem (by omega)]
        rw [byteVal_far _ _ (by simp; omega)]
        simp [packB]
    · simp only [if_neg hm]
      have hpl : (packB l).length = l.length / 8 + 1 := by rw [packB_length]; omega
      by_cases hj2 : j = l.length / 8
      · subst hj2
        rw [List.getElem?_set_self (by omega), packB_get _ _ (by omega), byteVal_snoc _ _ (by simp; omega)]
        have e3 : (l.drop (8 * (l.length / 8))).length = l.length % 8 := by simp; omega
        rw [e3]
      · rw [List.getElem?_set_ne (by omega), List.getElem?_eq_getElem (by omega), byteVal_far _ _ (by simp; omega)]
        simp [packB]
  · rw [List.getElem?_eq_none (by omega), List.getElem?_eq_none]
    rw [List.length_set]
    split
    · simp [packB_length]; omega
    · rw [packB_length]; omega

/-- The byte that a bit goes into has 0 from there on. -/
theorem packB_low (l : List Int) (h : l.length % 8 ≠ 0) : (packB l).getD (l.length / 8) 0 % 2 ^ (8 - l.length % 8) = 0 := by
  rw [packB_get _ _ (by omega)]
  have e3 : (l.drop (8 * (l.length / 8))).length = l.length % 8 := by simp; omega
  generalize l.drop (8 * (l.length / 8)) = m at e3
  rw [← e3]
  have h8 : m.length < 8 := by omega
  have hz : ∀ i, m.length ≤ i → m.getD i 0 = 0 := fun i hi => by rw [List.getD_eq_getElem?_getD, List.getElem?_eq_none hi]; rfl
  unfold byteVal
  have hc : m.length = 1 ∨ m.length = 2 ∨ m.length = 3 ∨ m.length = 4 ∨ m.length = 5 ∨ m.length = 6 ∨ m.length = 7 := by omega
  rcases hc with hc | hc | hc | hc | hc | hc | hc
  · rw [hz 1 (by omega), hz 2 (by omega), hz 3 (by omega), hz 4 (by omega), hz 5 (by omega), hz 6 (by omega), hz 7 (by omega), hc]; simp
  · rw [hz 2 (by omega), hz 3 (by omega), hz 4 (by omega), hz 5 (by omega), hz 6 (by omega), hz 7 (by omega), hc]; simp; omega
  · rw [hz 3 (by omega), hz 4 (by omega), hz 5 (by omega), hz 6 (by omega), hz 7 (by omega), hc]; simp; omega
  · rw [hz 4 (by omega), hz 5 (by omega), hz 6 (by omega), hz 7 (by omega), hc]; simp; omega
  · rw [hz 5 (by omega), hz 6 (by omega), hz 7 (by omega), hc]; simp; omega
  · rw [hz 6 (by omega), hz 7 (by omega), hc]; simp; omega
  · rw [hz 7 (by omega), hc]; simp; omega

end Go.Proofs.Ytmdaaphjndjakaf.Gv


namespace Go.Proofs.Ytmdaaphjndjakaf.Gv
open Go.RowKit Go.Proofs.YtmdaaphjndjakafW.PrintWords
set_option linter.unusedVariables false

/-- The writer lies in block B and has laid these bits. -/
def Wr (B : Nat) (wr : World) (bits : List Int) : Prop :=
  ∃ v, wr.heap[B]? = some (.cells #[v, .int .i64 bits.length] 107 (0, 0)) ∧ wr.ownsRow (B + 1) 5 1 v (packB bits).length ((packB bits).map (Value.int .u8)) ∧ IsBits bits
/-- What a step of the writer leaves as it was. -/
def Fr (B : Nat) (wr w' : World) : Prop := ∀ k o, B < k → wr.heap[k]? = some o → (∀ cs, o ≠ .cells cs 5 (0, 0)) → w'.heap[k]? = some o

theorem infoU8 : (Try.prog.info? 5).map (fun i => (i.zero, i.size, i.bytes)) = some (some (.int .u8 0), 1, 1) := by kernel_rfl

theorem wraps_u64 (n : Int) (h₀ : 0 ≤ n) (h₁ : n < 2 ^ 64) : IntKind.u64.wrap n = n := by simp [IntKind.wrap, IntKind.bits, IntKind.signed]; omega
theorem and_one (v : Int) (h0 : 0 ≤ v) (h1 : v ≤ 18446744073709551615) : Go.bits .and .u64 v 1 = v % 2 :=
  bits_mask .u64 64 (by decide) wraps_u64 1 (by decide) v h0 (by omega)
/-- The bit goes into the byte. -/
theorem or_bit (x v : Int) (m : Nat) (hx0 : 0 ≤ x) (hx1 : x ≤ 255) (hm : m ≤ 7) (hl : x % 2 ^ (8 - m) = 0) (h0 : 0 ≤ v) (h1 : v ≤ 18446744073709551615) :
    Go.bits .or .u8 x (Go.bits .and .u64 v 1 % 256 * 2 ^ (7 - m) % 256) = x + v % 2 * 2 ^ (7 - m) := by
  rw [and_one v h0 h1]
  have hv := mod2 v
  have hp : (1 : Int) ≤ 2 ^ (7 - m) ∧ (2 : Int) ^ (7 - m) ≤ 128 ∧ (2 : Int) ^ (8 - m) = 2 * 2 ^ (7 - m) := by
    have : m = 0 ∨ m = 1 ∨ m = 2 ∨ m = 3 ∨ m = 4 ∨ m = 5 ∨ m = 6 ∨ m = 7 := by omega
    rcases this with h | h | h | h | h | h | h | h <;> subst h <;> decide
  generalize (2 : Int) ^ (7 - m) = q at hp
  have e : v % 2 % 256 * q % 256 = v % 2 * q := by rcases hv with h | h <;> rw [h] <;> omega
  rw [e]
  exact bits_join .u8 8 (by decide) wraps_u8 (8 - m) x _ hx0 hl (by omega) (by rcases hv with h | h <;> rw [h] <;> omega) (by rw [hp.2.2]; rcases hv with h | h <;> rw [h] <;> omega) (by rcases hv with h | h <;> rw [h] <;> omega)

/-- The row behind the store; n bits have been laid ahead of it. -/
theorem wr_step (B g cap : Nat) (bits : List Int) (v : Int) (wr w2 : World) (hb : bits.length ≤ 1000000000) (hbits : IsBits bits) (hv0 : 0 ≤ v) (hv1 : v ≤ 18446744073709551615)
    (ro : List Int) (hro : ro = if bits.length % 8 = 0 then packB bits ++ [0] else packB bits)
    (hblk : w2.heap[B]? = some (.cells #[.slice (some ⟨g, 0, none⟩) ro.length cap, .int .i64 bits.length] 107 (0, 0)))
    (hown : w2.ownsRow (B + 1) 5 1 (.slice (some ⟨g, 0, none⟩) ro.length cap) ro.length (ro.map (Value.int .u8)))
    (hbel : Below B wr w2) (hfr : Fr B wr w2) (hg : ∀ o, wr.heap[g]? = some o → B < g → ∃ cs, o = .cells cs 5 (0, 0)) (x : Int) (hx : x = ro.getD (bits.length / 8) 0 + v % 2 * 2 ^ (7 - bits.length % 8)) :
    Wr B ((w2.setCell ⟨g, bits.length / 8, none⟩ (.int .u8 x)).setCell ⟨B, 1, none⟩ (.int .i64 ((bits.length : Int) + 1))).drew (bits ++ [v % 2]) ∧
    Below B wr ((w2.setCell ⟨g, bits.length / 8, none⟩ (.int .u8 x)).setCell ⟨B, 1, none⟩ (.int .i64 ((bits.length : Int) + 1))).drew ∧
    Fr B wr ((w2.setCell ⟨g, bits.length / 8, none⟩ (.int .u8 x)).setCell ⟨B, 1, none⟩ (.int .i64 ((bits.length : Int) + 1))).drew := by
  have hBg := (hown.lt g rfl).1
  have hsn := packB_snoc bits (v % 2)
  rw [← hro, ← hx] at hsn
  have hlen : (packB (bits ++ [v % 2])).length = ro.length := by rw [hsn, List.length_set]
  have hst := (hown.stored (bits.length / 8) (.int .u8 x)).1
  have hb1 : (w2.setCell ⟨g, bits.length / 8, none⟩ (.int .u8 x)).heap[B]? = some (.cells #[.slice (some ⟨g, 0, none⟩) ro.length cap, .int .i64 bits.length] 107 (0, 0)) := blk_far hblk (by show B ≠ g; omega) _
  refine ⟨⟨.slice (some ⟨g, 0, none⟩) ro.length cap, ?_, ?_, hbits.append (fun b hb => by simp at hb; subst hb; exact mod2 v)⟩, ?_, ?_⟩
  · have := blk_put hb1 1 (.int .i64 ((bits.length : Int) + 1)) (cs' := #[.slice (some ⟨g, 0, none⟩) ro.length cap, .int .i64 ((bits ++ [v % 2]).length)]) (by simp)
    exact this
  · rw [hlen]
    have h2 := own_setCell hst (p := ⟨B, 1, none⟩) (by simp [Value.ownBlock]; omega) (.int .i64 ((bits.length : Int) + 1))
    rw [hsn, List.map_set]
    exact h2
  · exact ((hbel.setCell (p := ⟨g, bits.length / 8, none⟩) (by show B ≤ g; omega) _).setCell (p := ⟨B, 1, none⟩) (Nat.le_refl _) _).drew
  · intro k o hk ho hno
    have h0 := hfr k o hk ho hno
    have hkg : k ≠ g := fun e => by
      subst e
      obtain ⟨cs, hcs⟩ := hg o ho hk
      exact hno cs hcs
    show ((w2.setCell ⟨g, bits.length / 8, none⟩ (.int .u8 x)).setCell ⟨B, 1, none⟩ (.int .i64 ((bits.length : Int) + 1))).heap[k]? = some o
    rw [Below.heap_setCell _ _ _ _ (by show k ≠ B; omega), Below.heap_setCell _ _ _ _ (by show k ≠ g; exact hkg)]
    exact h0

theorem own_type {w : World} {base : Nat} {e : TypeId} {size n g m cap : Nat} {xs : List Value} (h : w.ownsRow base e size (.slice (some ⟨g, 0, none⟩) m cap) n xs) {B : Nat} : ∀ o, w.heap[g]? = some o → B < g → ∃ cs, o = .cells cs e (0, 0) := by
  intro o ho _
  rcases h.2 with ⟨h', _⟩ | ⟨g', cap', cur, h', _, hg, _⟩
  · simp at h'
  · simp only [Value.slice.injEq, Option.some.injEq, Addr.mk.injEq, and_true] at h'
    obtain ⟨rfl, _⟩ := h'
    rw [hg] at ho
    exact ⟨cur, (Option.some.inj ho).symm⟩

set_option maxHeartbeats 1600000 in
set_option maxRecDepth 100000 in
theorem bit_on (B : Nat) (bits : List Int) (v : Int) (wr : World) (h : Wr B wr bits) (hv0 : 0 ≤ v) (hv1 : v ≤ 18446744073709551615) (hb : bits.length ≤ 1000000000) (hm : bits.length % 8 ≠ 0) :
    Calls Try.prog 64 #[.pointer (some ⟨B, 0, none⟩), .int .u64 v] wr fun e w' => e = .returned (.tuple #[]) ∧ Wr B w' (bits ++ [v % 2]) ∧ Below B wr w' ∧ Fr B wr w' := by
  obtain ⟨u, hblk, hown, hbits⟩ := h
  have hpl := packB_length bits
  have hex : ∃ g cap, u = .slice (some ⟨g, 0, none⟩) (packB bits).length cap := by
    obtain ⟨_, hcase⟩ := hown
    rcases hcase with ⟨_, h0⟩ | ⟨g', cap', cur', h, _⟩
    · omega
    · exact ⟨g', cap', h⟩
  obtain ⟨g, cap, rfl⟩ := hex
  have hc0 : wr.cell? ⟨B, 0, none⟩ = some (.slice (some ⟨g, 0, none⟩) (packB bits).length cap) := (blk_cell hblk 0).trans rfl
  have hc1 : wr.cell? ⟨B, 1, none⟩ = some (.int .i64 bits.length) := (blk_cell hblk 1).trans rfl
  have hf1 := blk_frozen hblk 1
  have hr1 : wr.cell? ⟨g, bits.length / 8, none⟩ = some (.int .u8 ((packB bits).getD (bits.length / 8) 0)) := by
    rw [hown.cellAt (bits.length / 8) (by omega), List.getElem?_map, List.getElem?_eq_getElem (by omega), List.getD_eq_getElem?_getD, List.getElem?_eq_getElem (by omega)]; rfl
  have hfr := hown.frozenAt (bits.length / 8)
  have hne := (hown.lt g rfl).1
  have ht8 : ((bits.length : Int) % 8 == 0) = false := by rw [beq_eq_false_iff_ne]; omega
  have hi0 : (0 : Int) ≤ (bits.length : Int) / 8 := by omega
  have hi1 : (bits.length : Int) / 8 < ((packB bits).length : Int) := by omega
  clear hpl
  go_enter Try.func64, Try.ntmps64
  go_wp2
  go_region
  all_goals (try go_wp2)
  go_end0
  refine ⟨rfl, ?_⟩
  have hget : (packB bits)[bits.length / 8]?.getD 0 = (packB bits).getD (bits.length / 8) 0 := (List.getD_eq_getElem?_getD).symm
  have hrg : 0 ≤ (packB bits).getD (bits.length / 8) 0 ∧ (packB bits).getD (bits.length / 8) 0 ≤ 255 := by
    have hlt : bits.length / 8 < (packB bits).length := by omega
    rw [List.getD_eq_getElem?_getD, List.getElem?_eq_getElem hlt]
    exact packB_range hbits _ (List.getElem_mem hlt)
  rw [hget, or_bit _ v (bits.length % 8) hrg.1 hrg.2 (by omega) (packB_low bits hm) hv0 hv1]
  exact wr_step B g cap bits v wr wr hb hbits hv0 hv1 (packB bits) (by rw [if_neg hm]) hblk hown (Below.refl _ _) (fun _ _ _ h _ => h) (own_type hown) _ rfl

set_option maxHeartbeats 1600000 in
set_option maxRecDepth 100000 in
theorem bit_new (B : Nat) (bits : List Int) (v : Int) (wr : World) (h : Wr B wr bits) (hv0 : 0 ≤ v) (hv1 : v ≤ 18446744073709551615) (hb : bits.length ≤ 1000000000) (hm : bits.length % 8 = 0) :
    Calls Try.prog 64 #[.pointer (some ⟨B, 0, none⟩), .int .u64 v] wr fun e w' => e = .returned (.tuple #[]) ∧ Wr B w' (bits ++ [v % 2]) ∧ Below B wr w' ∧ Fr B wr w' := by
  obtain ⟨u, hblk, hown, hbits⟩ := h
  obtain ⟨i, hi, hz0, hz1, hz2⟩ := info_parts infoU8
  have hpl := packB_length bits
  have hlen1 : (packB bits).length = bits.length / 8 := by omega
  have hBlt := blk_lt hblk
  have hc0 : wr.cell? ⟨B, 0, none⟩ = some u := (blk_cell hblk 0).trans rfl
  have hc1 : wr.cell? ⟨B, 1, none⟩ = some (.int .i64 bits.length) := (blk_cell hblk 1).trans rfl
  have hf0 := blk_frozen hblk 0
  have hf1 := blk_frozen hblk 1
  have ht8 : ((bits.length : Int) % 8 == 0) = true := by rw [beq_iff_eq]; omega
  have hreach : (packB bits).length + 1 ≤ 140737488355328 := by omega
  have Hl := Lib.hid hlen1
  have Hm := Lib.hid hm
  clear hpl hlen1 hm
  go_enter Try.func64, Try.ntmps64
  go_wp2_with (at_builtin; refine wpList_append_own _ rfl (.tmp 14) (.tmp 15) 79 rfl (B + 1) 5 i (.int .u8 0) 1 1 Try.underlying79 hi hz0 hz1 hz2 rfl (by decide) u (packB bits).length _ rfl (hown.alloc _) ⟨wr.heap.size, 0, none⟩ 1 1 [.int .u8 0] rfl rfl ?c1 ?c2 (by unfold maxLen; omega) (by omega) (by simp; omega) ?_)
  case c1 =>
    intro j u hj
    match j, hj with
    | 0, hj => simp at hj; subst hj; simp [Addr.add]
  case c2 => intro u hu; simp at hu; subst hu; rfl
  intro v' w1 hown' hgrow _
  have hex : ∃ g' cap', v' = .slice (some ⟨g', 0, none⟩) ((packB bits).length + 1) cap' := by
    obtain ⟨_, hcase⟩ := hown'
    rcases hcase with ⟨_, h0⟩ | ⟨g', cap', cur', h, _⟩
    · omega
    · exact ⟨g', cap', h⟩
  obtain ⟨g, cap, rfl⟩ := hex
  have hne : some B ≠ u.ownBlock := fun h => by have := hown.lt B h.symm; omega
  have hb1 : w1.heap[B]? = some (.cells #[u, .int .i64 bits.length] 107 (0, 0)) := blk_grown (blk_alloc hblk _) hgrow hne
  have hb2 : (w1.setCell ⟨B, 0, none⟩ (.slice (some ⟨g, 0, none⟩) ((packB bits).length + 1) cap)).heap[B]? = some (.cells #[.slice (some ⟨g, 0, none⟩) ((packB bits).length + 1) cap, .int .i64 bits.length] 107 (0, 0)) := blk_put hb1 0 _ (by simp)
  have hBg := (hown'.lt g rfl).1
  have hown2 : (w1.setCell ⟨B, 0, none⟩ (.slice (some ⟨g, 0, none⟩) ((packB bits).length + 1) cap)).ownsRow (B + 1) 5 1 (.slice (some ⟨g, 0, none⟩) ((packB bits).length + 1) cap) ((packB bits).length + 1) ((packB bits).map (Value.int .u8) ++ [.int .u8 0]) := own_setCell hown' (by simp [Value.ownBlock]; omega) _
  have hbel : Below B wr (w1.setCell ⟨B, 0, none⟩ (.slice (some ⟨g, 0, none⟩) ((packB bits).length + 1) cap)) :=
    (((Below.refl B wr).alloc (by omega) _).grown hgrow (by simp; omega) (fun k hk => by have := (hown.lt k hk).1; omega)).setCell (Nat.le_refl B) _
  have hfr2 : Fr B wr (w1.setCell ⟨B, 0, none⟩ (.slice (some ⟨g, 0, none⟩) ((packB bits).length + 1) cap)) := by
    intro k o hk ho hno
    rw [Below.heap_setCell _ _ _ _ (by show k ≠ B; omega)]
    refine blk_grown (blk_alloc ho _) hgrow (fun e => ?_)
    rcases hown.2 with ⟨h', _⟩ | ⟨g', cap', cur, h', _, hg, _⟩
    · rw [h'] at e; simp [Value.ownBlock] at e
    · rw [h'] at e; simp [Value.ownBlock] at e; subst e; rw [hg] at ho; exact hno cur (Option.some.inj ho).symm
  have hgt : ∀ o, wr.heap[g]? = some o → B < g → ∃ cs, o = .cells cs 5 (0, 0) := by
    intro o ho hBg
    by_cases e : some g = u.ownBlock
    · rcases hown.2 with ⟨h', _⟩ | ⟨g', cap', cur, h', _, hg, _⟩
      · rw [h'] at e; simp [Value.ownBlock] at e
      · rw [h'] at e; simp [Value.ownBlock] at e; subst e; rw [hg] at ho; exact ⟨cur, (Option.some.inj ho).symm⟩
    · have := blk_grown (blk_alloc ho _) hgrow e
      exact own_type hown' (B := B) o this hBg
  have hv1c : w1.cell? ⟨B, 0, none⟩ = some u := (blk_cell hb1 0).trans rfl
  have hv1f := blk_frozen hb1 0
  go_wp2_with fail
  obtain ⟨w2, hw2⟩ : ∃ w2, w1.setCell ⟨B, 0, none⟩ (.slice (some ⟨g, 0, none⟩) ((packB bits).length + 1) cap) = w2 := ⟨_, rfl⟩
  rw [hw2] at hb2 hown2 hbel hfr2 ⊢
  clear hw2 hv1c hv1f hb1 hown' hgrow hc0 hc1 hf0 hf1
  have hc0 : w2.cell? ⟨B, 0, none⟩ = some (.slice (some ⟨g, 0, none⟩) ((packB bits).length + 1) cap) := (blk_cell hb2 0).trans rfl
  have hc1 : w2.cell? ⟨B, 1, none⟩ = some (.int .i64 bits.length) := (blk_cell hb2 1).trans rfl
  have hf1 := blk_frozen hb2 1
  have hr1 : w2.cell? ⟨g, bits.length / 8, none⟩ = some (.int .u8 0) := by
    rw [hown2.cellAt (bits.length / 8) (by have := Hl.out; omega), ← Hl.out, List.getElem?_append_right (by simp)]; simp
  have hfr := hown2.frozenAt (bits.length / 8)
  have hi0 : (0 : Int) ≤ (bits.length : Int) / 8 := by omega
  have hi1 : (bits.length : Int) / 8 < ((packB bits).length : Int) + 1 := by have := Hl.out; omega
  go_region
  all_goals (try go_wp2)
  go_end0
  refine ⟨rfl, ?_⟩
  have e0 := or_bit 0 v (bits.length % 8) (by omega) (by omega) (by omega) (Int.zero_emod _) hv0 hv1
  rw [e0]
  have hlr : (packB bits ++ [0]).length = (packB bits).length + 1 := by simp
  exact wr_step B g cap bits v wr w2 hb hbits hv0 hv1 (packB bits ++ [0]) (by rw [if_pos Hm.out]) (by rw [hlr]; exact hb2) (by rw [hlr, List.map_append]; exact hown2) hbel hfr2 hgt _ (by
    rw [← Hl.out, List.getD_eq_getElem?_getD, List.getElem?_append_right (by omega)]; simp)

/-- The method bit, whatever has been laid. -/
theorem bit_any (B : Nat) (bits : List Int) (v : Int) (wr : World) (h : Wr B wr bits) (hv0 : 0 ≤ v) (hv1 : v ≤ 18446744073709551615) (hb : bits.length ≤ 1000000000) :
    Calls Try.prog 64 #[.pointer (some ⟨B, 0, none⟩), .int .u64 v] wr fun e w' => e = .returned (.tuple #[]) ∧ Wr B w' (bits ++ [v % 2]) ∧ Below B wr w' ∧ Fr B wr w' := by
  by_cases hm : bits.length % 8 = 0
  · exact bit_new B bits v wr h hv0 hv1 hb hm
  · exact bit_on B bits v wr h hv0 hv1 hb hm

end Go.Proofs.Ytmdaaphjndjakaf.Gv


namespace Go.Proofs.Ytmdaaphjndjakaf.Gv
open Go.RowKit Go.Proofs.YtmdaaphjndjakafW.PrintWords
set_option linter.unusedVariables false

theorem may_calls (n : Int) (w : World) :
    Calls Try.prog 63 #[.int .i64 n] w fun e w' => e = .returned (.bool (decide (1 ≤ n) && decide (n ≤ 64))) ∧ w' = w := by
  by_cases h : 1 ≤ n
  · have hd : decide (1 ≤ n) = true := by simpa using h
    go_enter Try.func63, Try.ntmps63
    go_wp2
    go_ret
    simp [h]
  · have hd : decide (1 ≤ n) = false := by simpa using h
    go_enter Try.func63, Try.ntmps63
    go_wp2
    go_ret
    simp

theorem may_yes (n : Int) (w : World) (h1 : 1 ≤ n) (h2 : n ≤ 64) : Calls Try.prog 63 #[.int .i64 n] w fun e w' => e = .returned (.bool true) ∧ w = w' :=
  (may_calls n w).mono fun e w' ⟨he, hw⟩ => ⟨by rw [he]; simp [h1, h2], hw.symm⟩
theorem may_no (n : Int) (w : World) (h : ¬ (1 ≤ n ∧ n ≤ 64)) : Calls Try.prog 63 #[.int .i64 n] w fun e w' => e = .returned (.bool false) ∧ w = w' :=
  (may_calls n w).mono fun e w' ⟨he, hw⟩ => ⟨by rw [he]; simp; omega, hw.symm⟩
theorem all_bad {l : List (Int × Int)} {k : Nat} (h : k < l.length) (hb : okPart (l.getD k (0, 0)) = false) : l.all okPart = false := by
  rw [List.all_eq_false]
  exact ⟨l.getD k (0, 0), by rw [List.getD_eq_getElem?_getD, List.getElem?_eq_getElem h]; exact List.getElem_mem h, by rw [hb]; simp⟩
theorem all_snoc {l : List (Int × Int)} {k : Nat} (h : k < l.length) (ha : (l.take k).all okPart = true) (hb : okPart (l.getD k (0, 0)) = true) : (l.take (k + 1)).all okPart = true := by
  rw [List.take_succ_eq_append_getElem h, List.all_append, ha]
  rw [List.getD_eq_getElem?_getD, List.getElem?_eq_getElem h] at hb
  simpa using hb

theorem allBits_snoc (l : List (Int × Int)) (k : Nat) (h : k < l.length) : allBits (l.take (k + 1)) = allBits (l.take k) ++ bitsOf (l.getD k (0, 0)).1.toNat (l.getD k (0, 0)).2 := by
  rw [List.take_succ_eq_append_getElem h]
  simp only [allBits, List.flatMap_append]
  simp [List.getD_eq_getElem?_getD, h]
theorem bitsOf_snoc (w j : Nat) (v : Int) (h : j < w) : (bitsOf w v).take (j + 1) = (bitsOf w v).take j ++ [v / 2 ^ (w - 1 - j) % 2] := by
  rw [List.take_succ_eq_append_getElem (by rw [bitsOf_length]; exact h)]
  simp [bitsOf]
theorem allBits_length (l : List (Int × Int)) (h : l.all okPart = true) : (allBits l).length ≤ 64 * l.length := by
  induction l with
  | nil => simp [allBits]
  | cons p l ih =>
    simp only [List.all_cons, Bool.and_eq_true] at h
    have := ih h.2
    have hp := h.1
    simp only [okPart, Bool.and_eq_true, decide_eq_true_eq] at hp
    simp only [allBits, List.flatMap_cons, List.length_append, bitsOf_length, List.length_cons] at this ⊢
    omega
theorem wr_new (w : World) : Wr w.heap.size (w.alloc (.cells #[.slice none 0 0, .int .i64 0] 107)) [] :=
  ⟨.slice none 0 0, by simpa using heap_alloc_new w _, World.ownsRow_nil _ _ _ _, fun b hb => by simp at hb⟩
theorem Wr.cells {B : Nat} {wr : World} {bits : List Int} (h : Wr B wr bits) : ∃ A c, wr.cell? ⟨B, 0, none⟩ = some (.slice A (packB bits).length c) ∧ wr.cell? ⟨B, 1, none⟩ = some (.int .i64 bits.length) ∧ wr.ownsRow (B + 1) 5 1 (.slice A (packB bits).length c) (packB bits).length ((packB bits).map (Value.int .u8)) := by
  obtain ⟨v, hb, ho, _⟩ := h
  have ho' := ho
  obtain ⟨_, hcase⟩ := ho
  rcases hcase with ⟨rfl, h0⟩ | ⟨g, cap, _, rfl, _⟩
  · exact ⟨none, 0, by rw [h0]; exact (blk_cell hb 0).trans rfl, (blk_cell hb 1).trans rfl, by rw [h0] at ho' ⊢; exact ho'⟩
  · exact ⟨_, _, (blk_cell hb 0).trans rfl, (blk_cell hb 1).trans rfl, ho'⟩
theorem Wr.alloc {B : Nat} {wr : World} {bits : List Int} (h : Wr B wr bits) (o : Obj) : Wr B (wr.alloc o) bits := by
  obtain ⟨v, hb, ho, hi⟩ := h
  exact ⟨v, blk_alloc hb o, ho.alloc o, hi⟩

set_option maxHeartbeats 3200000 in
set_option maxRecDepth 100000 in
theorem pack_calls (A : Option Addr) (c : Nat) (l : List (Int × Int)) (w : World)
    (hp : ∀ i : Nat, i < l.length → ∃ ad, A = some ad ∧ w.cell? (ad.add (i * 2)) = some (.int .i64 (l.getD i (0, 0)).1) ∧ w.cell? ⟨(ad.add (i * 2)).block, (ad.add (i * 2)).off + 1, none⟩ = some (.int .u64 (l.getD i (0, 0)).2))
    (hc : l.length ≤ c) (r1 : ByteArray) (r2 : Int) (h : pack l = some (r1, r2)) :
    Calls Try.prog 39 #[.slice A l.length c] w fun e w' => e = .returned (.tuple #[.string r1, .int .i64 r2]) ∧ Below w.heap.size w w' := by
  unfold pack at h
  have hg : isU64 l = true ∧ l.length ≤ 1000000 := by
    by_cases hg : isU64 l = true ∧ l.length ≤ 1000000
    · exact hg
    · rw [if_neg hg] at h; cases h
  rw [if_pos hg] at h
  obtain ⟨hu, hlen⟩ := hg
  have H := Lib.hid h
  have HP := Lib.hid hp
  have HU := Lib.hid hu
  clear h hp hu
  have hw0 := wr_new w
  go_enter Try.func39, Try.ntmps39
  go_wp2_with fail
  go_loopw [12] (fun i wr => ∃ k : Nat, k ≤ l.length ∧ i = .int .i64 k ∧ Wr w.heap.size wr (allBits (l.take k)) ∧ Below w.heap.size w wr ∧ Hid ((l.take k).all okPart = true)) (fun i _ => l.length - (intOf i).toNat)
  case atStart => exact ⟨0, Nat.zero_le _, rfl, hw0, (Below.refl _ _).alloc (Nat.le_refl _) _, Lib.hid rfl⟩
  case round =>
    obtain ⟨k, hk, rfl, hwr, hbel, hok⟩ := hrel
    by_cases hlt : k < l.length
    · obtain ⟨ad, hA, hq0, hq1⟩ := HP.out k hlt
      subst hA
      obtain ⟨pw, hpw⟩ : ∃ pw, (l.getD k (0, 0)).1 = pw := ⟨_, rfl⟩
      obtain ⟨pv, hpv⟩ : ∃ pv, (l.getD k (0, 0)).2 = pv := ⟨_, rfl⟩
      have hpb : 0 ≤ pv ∧ pv ≤ 18446744073709551615 := by
        have h1 := List.all_eq_true.1 HU.out (l.getD k (0, 0)) (by rw [List.getD_eq_getElem?_getD, List.getElem?_eq_getElem hlt]; exact List.getElem_mem hlt)
        simp only [Bool.and_eq_true, decide_eq_true_eq, hpv, u64max] at h1
        exact h1
      rw [hpw] at hq0
      rw [hpv] at hq1
      have hd0 : wr.cell? (ad.add (k * 2)) = some (.int .i64 pw) := (hbel.cell (World.block_lt_of_cell? w _ hq0)).trans hq0
      have hd1 : wr.cell? ⟨(ad.add (k * 2)).block, (ad.add (k * 2)).off + 1, none⟩ = some (.int .u64 pv) := (hbel.cell (World.block_lt_of_cell? w _ hq1)).trans hq1
      have HW := Lib.hid hpw
      have HV := Lib.hid hpv
      clear hq0 hq1 hpw hpv
      obtain ⟨hv0, hv1⟩ := hpb
      by_cases hmay : 1 ≤ pw ∧ pw ≤ 64
      · obtain ⟨hm1, hm2⟩ := hmay
        obtain ⟨n, rfl⟩ := Int.eq_ofNat_of_zero_le (show 0 ≤ pw by omega)
        by_cases hgood : (n : Int) < 64 ∧ 0 < pv / 2 ^ n
        · -- a value that has more bits
          obtain ⟨hg1, hg2⟩ := hgood
          have hgb : decide (0 < pv / 2 ^ n) = true := by simpa using hg2
          go_wp2_with (go_at_call 63; refine (may_yes _ _ hm1 hm2).mono ?_; rintro e w' ⟨rfl, rfl⟩)
          go_ret2
          have hbad : l.all okPart = false := all_bad hlt (by
            simp only [okPart, HW.out, HV.out, Int.toNat_natCast]
            have h1 : ¬ (64 : Int) ≤ n := by omega
            have h2 : ¬ pv / 2 ^ n = 0 := by omega
            simp [h1, h2])
          have hR := H.out
          rw [hbad] at hR
          simp only [Bool.false_eq_true, if_false, Option.some.injEq, Prod.mk.injEq] at hR
          obtain ⟨rfl, rfl⟩ := hR
          exact ⟨rfl, hbel.alloc (by have := hbel.size; omega) _⟩
        · have hok1 : okPart (l.getD k (0, 0)) = true := by
            simp only [okPart, HW.out, HV.out, Int.toNat_natCast, Bool.and_eq_true, Bool.or_eq_true, decide_eq_true_eq]
            refine ⟨⟨hm1, hm2⟩, ?_⟩
            by_cases h64 : (64 : Int) ≤ n
            · exact .inl h64
            · have h0 : 0 ≤ pv / 2 ^ n := Int.ediv_nonneg hv0 (Int.le_of_lt (Int.pow_pos (by decide)))
              have : ¬ 0 < pv / 2 ^ n := fun h => hgood ⟨by omega, h⟩
              exact .inr (by omega)
          have hok2 := Lib.hid (all_snoc hlt hok.out hok1)
          have hal := allBits_snoc l k hlt
          rw [HW.out, HV.out, Int.toNat_natCast] at hal
          have HAL := Lib.hid hal
          have hll : (allBits (l.take k)).length ≤ 64000000 := by
            have := allBits_length (l.take k) hok.out
            have : (l.take k).length ≤ k := List.length_take_le _ _
            omega
          clear hal hok1
          have hbn : w.heap.size < wr.heap.size := by
            obtain ⟨_, hb, _⟩ := hwr
            exact blk_lt hb
          have hwr1 := hwr.alloc (.cells #[.int .i64 n, .int .u64 pv] 75)
          have hbel1 := hbel.alloc (Nat.le_of_lt hbn) (.cells #[.int .i64 n, .int .u64 pv] 75)
          have hpb1 : (wr.alloc (.cells #[.int .i64 n, .int .u64 pv] 75)).heap[wr.heap.size]? = some (.cells #[.int .i64 n, .int .u64 pv] 75 (0, 0)) := by simpa using heap_alloc_new wr _
          by_cases h64 : (n : Int) < 64
          · have hgb : decide (0 < pv / 2 ^ n) = false := by
              rw [decide_eq_false_iff_not]; exact fun h => hgood ⟨h64, h⟩
            go_wp2_with (go_at_call 63; refine (may_yes _ _ hm1 hm2).mono ?_; rintro e w' ⟨rfl, rfl⟩)
            obtain ⟨w1, hw1⟩ : ∃ w1, wr.alloc (.cells #[.int .i64 n, .int .u64 pv] 75) = w1 := ⟨_, rfl⟩
            rw [hw1] at hwr1 hbel1 hpb1 ⊢
            obtain ⟨bp, hbp⟩ : ∃ bp, wr.heap.size = bp := ⟨_, rfl⟩
            rw [hbp] at hpb1 hbn ⊢
            clear hw1 hbp
            go_loopw [35] (fun i wv => ∃ j : Nat, j ≤ n ∧ i = .int .i64 j ∧ Wr w.heap.size wv (allBits (l.take k) ++ (bitsOf n pv).take j) ∧ Below w.heap.size w wv ∧ wv.heap[bp]? = some (.cells #[.int .i64 n, .int .u64 pv] 75 (0, 0))) (fun i _ => n - (intOf i).toNat)
            case atStart => exact ⟨0, Nat.zero_le _, rfl, by simpa using hwr1, hbel1, hpb1⟩
            case round =>
              obtain ⟨j, hj, rfl, hwr2, hbel2, hpb2⟩ := hrel
              have hc0 : wr.cell? ⟨bp, 0, none⟩ = some (.int .i64 n) := (blk_cell hpb2 0).trans rfl
              have hc1 : wr.cell? ⟨bp, 1, none⟩ = some (.int .u64 pv) := (blk_cell hpb2 1).trans rfl
              by_cases hjn : j < n
              · have hbl : (allBits (l.take k) ++ (bitsOf n pv).take j).length ≤ 1000000000 := by
                  rw [List.length_append, List.length_take, bitsOf_length]; omega
                go_wp2_with (go_at_call 64; refine (bit_any w.heap.size _ _ _ hwr2 (Int.ediv_nonneg hv0 (Int.le_of_lt (Int.pow_pos (by decide)))) (Int.le_trans (Int.ediv_le_self _ hv0) hv1) hbl).mono ?_; rintro e w' ⟨rfl, hwr3, hbel3, hfr3⟩)
                go_roundw
                case rel =>
                  refine ⟨j + 1, by omega, by go_num, ?_, hbel2.trans hbel3, hfr3 bp _ hbn hpb2 (fun cs hcs => by simp at hcs)⟩
                  rw [bitsOf_snoc n j pv hjn, ← List.append_assoc]
                  exact hwr3
                case measure => simp [intOf]; omega
              · go_wp2
                go_roundw
                case rel =>
                  have ej : j = n := by omega
                  subst ej
                  rw [List.take_of_length_le (l := bitsOf j pv) (i := j) (by rw [bitsOf_length]; exact Nat.le_refl _), ← HAL.out] at hwr2
                  exact ⟨k + 1, by omega, by go_num, hwr2, hbel2, hok2⟩
                case measure => simp [intOf]; omega
          · go_wp2_with (go_at_call 63; refine (may_yes _ _ hm1 hm2).mono ?_; rintro e w' ⟨rfl, rfl⟩)
            obtain ⟨w1, hw1⟩ : ∃ w1, wr.alloc (.cells #[.int .i64 n, .int .u64 pv] 75) = w1 := ⟨_, rfl⟩
            rw [hw1] at hwr1 hbel1 hpb1 ⊢
            obtain ⟨bp, hbp⟩ : ∃ bp, wr.heap.size = bp := ⟨_, rfl⟩
            rw [hbp] at hpb1 hbn ⊢
            clear hw1 hbp
            go_loopw [35] (fun i wv => ∃ j : Nat, j ≤ n ∧ i = .int .i64 j ∧ Wr w.heap.size wv (allBits (l.take k) ++ (bitsOf n pv).take j) ∧ Below w.heap.size w wv ∧ wv.heap[bp]? = some (.cells #[.int .i64 n, .int .u64 pv] 75 (0, 0))) (fun i _ => n - (intOf i).toNat)
            case atStart => exact ⟨0, Nat.zero_le _, rfl, by simpa using hwr1, hbel1, hpb1⟩
            case round =>
              obtain ⟨j, hj, rfl, hwr2, hbel2, hpb2⟩ := hrel
              have hc0 : wr.cell? ⟨bp, 0, none⟩ = some (.int .i64 n) := (blk_cell hpb2 0).trans rfl
              have hc1 : wr.cell? ⟨bp, 1, none⟩ = some (.int .u64 pv) := (blk_cell hpb2 1).trans rfl
              by_cases hjn : j < n
              · have hbl : (allBits (l.take k) ++ (bitsOf n pv).take j).length ≤ 1000000000 := by
                  rw [List.length_append, List.length_take, bitsOf_length]; omega
                go_wp2_with (go_at_call 64; refine (bit_any w.heap.size _ _ _ hwr2 (Int.ediv_nonneg hv0 (Int.le_of_lt (Int.pow_pos (by decide)))) (Int.le_trans (Int.ediv_le_self _ hv0) hv1) hbl).mono ?_; rintro e w' ⟨rfl, hwr3, hbel3, hfr3⟩)
                go_roundw
                case rel =>
                  refine ⟨j + 1, by omega, by go_num, ?_, hbel2.trans hbel3, hfr3 bp _ hbn hpb2 (fun cs hcs => by simp at hcs)⟩
                  rw [bitsOf_snoc n j pv hjn, ← List.append_assoc]
                  exact hwr3
                case measure => simp [intOf]; omega
              · go_wp2
                go_roundw
                case rel =>
                  have ej : j = n := by omega
                  subst ej
                  rw [List.take_of_length_le (l := bitsOf j pv) (i := j) (by rw [bitsOf_length]; exact Nat.le_refl _), ← HAL.out] at hwr2
                  exact ⟨k + 1, by omega, by go_num, hwr2, hbel2, hok2⟩
                case measure => simp [intOf]; omega
      · go_wp2_with (go_at_call 63; refine (may_no _ _ hmay).mono ?_; rintro e w' ⟨rfl, rfl⟩)
        go_ret2
        have hbad : l.all okPart = false := all_bad hlt (by simp only [okPart, HW.out]; by_cases h1 : 1 ≤ pw <;> simp [h1] <;> omega)
        have hR := H.out
        rw [hbad] at hR
        simp only [Bool.false_eq_true, if_false, Option.some.injEq, Prod.mk.injEq] at hR
        obtain ⟨rfl, rfl⟩ := hR
        exact ⟨rfl, hbel.alloc (by have := hbel.size; omega) _⟩
    · have hkl : k = l.length := by omega
      subst hkl
      have hok3 := hok.out
      rw [List.take_length] at hwr hok3
      have hR := H.out
      rw [if_pos hok3] at hR
      have HR := Lib.hid hR
      obtain ⟨Aw, cw, hcell0, hcell1, hown⟩ := hwr.cells
      clear hR hok3 hok
      by_cases hm : (allBits l).length % 8 = 0
      · have hmb : (((allBits l).length : Int) % 8 != 0) = false := by rw [bne_eq_false_iff_eq]; omega
        have HM := Lib.hid hm
        clear hm
        have hconv := own_string (P := Try.prog) (src := 79) (dst := 9) (xs := packB (allBits l)) Try.underlying79 Try.underlying5 Try.underlying9 hown
        clear hown
        go_wp2
        go_ret2
        have hR := HR.out
        rw [if_pos HM.out] at hR
        simp only [Option.some.injEq, Prod.mk.injEq] at hR
        obtain ⟨rfl, rfl⟩ := hR
        exact ⟨rfl, hbel⟩
      · clear hown
        have hmb : (((allBits l).length : Int) % 8 != 0) = true := by rw [bne_iff_ne]; omega
        have HM := Lib.hid hm
        clear hm
        go_wp2
        go_ret2
        have hR := HR.out
        rw [if_neg HM.out] at hR
        simp only [Option.some.injEq, Prod.mk.injEq] at hR
        obtain ⟨rfl, rfl⟩ := hR
        exact ⟨rfl, hbel⟩

end Go.Proofs.Ytmdaaphjndjakaf.Gv


namespace Go.Proofs.Ytmdaaphjndjakaf.Gv
open Go.RowKit Go.Proofs.YtmdaaphjndjakafW.PrintWords Go.ChangeShapes Go.WideShapes Go.Deep
set_option linter.unusedVariables false
section
variable {H : Type} {enc : TypeId × Value → H} {P : Program} {w : World} {base : Nat} {spare : Nat → Bool} {held : Bool}

end
end Go.Proofs.Ytmdaaphjndjakaf.Gv

