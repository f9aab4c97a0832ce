/- The words that this claim's texts use. -/
import Derived.Test.YtapicoienpbdfaaVWatchPlaysa
import Derived.Test.YtapicoienpbdfaaProg
import Derived.WalkKit
import Derived.RegionTactic
import Derived.ChangeAlike
import Derived.BigRegion
import Derived.Lib.Hide
import Derived.Deep.LoopGhost
import Derived.Shelf.Strings.Repeat
import Derived.ChangeSame
import Derived.ChangeArms
import Derived.Deep.Slices
import Derived.SizedLaws
namespace Go.Proofs.Ytapicoienpbdfaa.Gv
open Go.RowKit

/-- The bits of a value, the highest first. -/
def bitsOf (w : Nat) (v : Int) : List Int := (List.range w).map fun i => v / 2 ^ (w - 1 - i) % 2
/-- A byte out of up to eight bits, the rest 0. -/
def byteVal (l : List Int) : Int := l.getD 0 0 * 128 + l.getD 1 0 * 64 + l.getD 2 0 * 32 + l.getD 3 0 * 16 + l.getD 4 0 * 8 + l.getD 5 0 * 4 + l.getD 6 0 * 2 + l.getD 7 0
def packB (l : List Int) : List Int := (List.range ((l.length + 7) / 8)).map fun j => byteVal (l.drop (8 * j))
def IsBits (l : List Int) : Prop := ∀ b ∈ l, b = 0 ∨ b = 1
def u64max : Int := 18446744073709551615
def okPart (p : Int × Int) : Bool := decide (1 ≤ p.1) && decide (p.1 ≤ 64) && (decide (64 ≤ p.1) || decide (p.2 / 2 ^ p.1.toNat = 0))
def allBits (l : List (Int × Int)) : List Int := l.flatMap fun p => bitsOf p.1.toNat p.2
def isU64 (l : List (Int × Int)) : Bool := l.all fun p => decide (0 ≤ p.2) && decide (p.2 ≤ u64max)
/-- The bytes of a list of numbers below 256. -/
def ofNums (l : List Int) : ByteArray := ⟨(l.map fun n => UInt8.ofNat n.toNat).toArray⟩
/-- What Pack comes to. -/
def pack (l : List (Int × Int)) : Option (ByteArray × Int) :=
  if isU64 l = true ∧ l.length ≤ 1000000 then
    if l.all okPart = true then
      if (allBits l).length % 8 = 0 then some (ofNums (packB (allBits l)), 0) else some (ByteArray.empty, 3)
    else some (ByteArray.empty, 4)
  else none

theorem bitsOf_length (w : Nat) (v : Int) : (bitsOf w v).length = w := by simp [bitsOf]
theorem mod2 (v : Int) : v % 2 = 0 ∨ v % 2 = 1 := by omega
theorem bitsOf_bits (w : Nat) (v : Int) : IsBits (bitsOf w v) := by
  intro b hb
  simp only [bitsOf, List.mem_map] at hb
  obtain ⟨i, _, rfl⟩ := hb
  exact mod2 _
theorem packB_length (l : List Int) : (packB l).length = (l.length + 7) / 8 := by simp [packB]
theorem getD_append_lt (l : List Int) (b : Int) (i : Nat) (h : i < l.length) : (l ++ [b]).getD i 0 = l.getD i 0 := by
  simp [List.getD_eq_getElem?_getD, List.getElem?_append_left h]
theorem getD_bit {l : List Int} (h : IsBits l) (i : Nat) : l.getD i 0 = 0 ∨ l.getD i 0 = 1 := by
  rw [List.getD_eq_getElem?_getD]
  by_cases hi : i < l.length
  · rw [List.getElem?_eq_getElem hi]; exact h _ (List.getElem_mem hi)
  · rw [List.getElem?_eq_none (by omega)]; exact .inl rfl
theorem byteVal_range {l : List Int} (h : IsBits l) : 0 ≤ byteVal l ∧ byteVal l ≤ 255 := by
  unfold byteVal
  have h0 := getD_bit h 0; have h1 := getD_bit h 1; have h2 := getD_bit h 2; have h3 := getD_bit h 3
  have h4 := getD_bit h 4; have h5 := getD_bit h 5; have h6 := getD_bit h 6; have h7 := getD_bit h 7
  omega
theorem IsBits.drop {l : List Int} (h : IsBits l) (k : Nat) : IsBits (l.drop k) := fun b hb => h b (List.mem_of_mem_drop hb)
theorem IsBits.append {l m : List Int} (h : IsBits l) (k : IsBits m) : IsBits (l ++ m) := fun b hb => (List.mem_append.1 hb).elim (h b) (k b)
theorem packB_range {l : List Int} (h : IsBits l) : ∀ n ∈ packB l, 0 ≤ n ∧ n ≤ 255 := by
  intro n hn
  simp only [packB, List.mem_map] at hn
  obtain ⟨j, _, rfl⟩ := hn
  exact byteVal_range (h.drop _)
theorem packB_get (l : List Int) (j : Nat) (h : j < (l.length + 7) / 8) : (packB l).getD j 0 = byteVal (l.drop (8 * j)) := by
  have hj : j < (packB l).length := by rw [packB_length]; exact h
  rw [List.getD_eq_getElem?_getD, List.getElem?_eq_getElem hj]
  simp [packB]

/-- A bit more in a byte that has place. -/
theorem byteVal_snoc (l : List Int) (b : Int) (h : l.length < 8) : byteVal (l ++ [b]) = byteVal l + b * 2 ^ (7 - l.length) := by
  have e : ∀ i, (l ++ [b]).getD i 0 = l.getD i 0 + if i = l.length then b else 0 := by
    intro i
    simp only [List.getD_eq_getElem?_getD]
    by_cases hi : i < l.length
    · rw [List.getElem?_append_left hi, if_neg (by omega)]; omega
    · by_cases hi2 : i = l.length
      · subst hi2; simp
      · rw [List.getElem?_eq_none (by simp; omega), List.getElem?_eq_none (by omega), if_neg hi2]; rfl
  unfold byteVal
  simp only [e]
  have hc : l.length = 0 ∨ l.length = 1 ∨ l.length = 2 ∨ l.length = 3 ∨ l.length = 4 ∨ l.length = 5 ∨ l.length = 6 ∨ l.length = 7 := by omega
  rcases hc with hc | hc | hc | hc | hc | hc | hc | hc <;> rw [hc] <;> simp <;> omega

/-- Bytes further on than the last bit don't hang on it. -/
theorem byteVal_far (l : List Int) (b : Int) (h : 8 ≤ l.length) : byteVal (l ++ [b]) = byteVal l := by
  unfold byteVal
  rw [getD_append_lt _ _ 0 (by omega), getD_append_lt _ _ 1 (by omega), getD_append_lt _ _ 2 (by omega), getD_append_lt _ _ 3 (by omega), getD_append_lt _ _ 4 (by omega), getD_append_lt _ _ 5 (by omega), getD_append_lt _ _ 6 (by omega), getD_append_lt _ _ 7 (by omega)]

/-- One bit more. -/
theorem packB_snoc (l : List Int) (b : Int) :
    packB (l ++ [b]) = ((if l.length % 8 = 0 then packB l ++ [0] else packB l).set (l.length / 8)
      ((if l.length % 8 = 0 then packB l ++ [0] else packB l).getD (l.length / 8) 0 + b * 2 ^ (7 - l.length % 8))) := by
  have hlen : (packB (l ++ [b])).length = (l.length + 8) / 8 := by rw [packB_length, List.length_append]; rfl
  apply List.ext_getElem?
  intro j
  by_cases hj : j < (l.length + 8) / 8
  · have g1 : (packB (l ++ [b]))[j]? = some (byteVal ((l ++ [b]).drop (8 * j))) := by
      rw [List.getElem?_eq_getElem (by rw [hlen]; exact hj)]; simp [packB]
    rw [g1, List.drop_append_of_le_length (by omega)]
    by_cases hm : l.length % 8 = 0
    · simp only [if_pos hm]
      have hpl : (packB l).length = l.length / 8 := by rw [packB_length]; omega
      by_cases hj2 : j = l.length / 8
      · subst hj2
        rw [List.getElem?_set_self (by simp; omega)]
        have e1 : l.drop (8 * (l.length / 8)) = [] := List.drop_eq_nil_of_le (by omega)
        rw [e1, byteVal_snoc [] b (by simp)]
        have e2 : (packB l ++ [0]).getD (l.length / 8) 0 = 0 := by
          rw [List.getD_eq_getElem?_getD, List.getElem?_append_right (by omega), hpl]; simp
        rw [e2, hm]; simp [byteVal]
      · rw [List.getElem?_set_ne (by omega), List.getElem?_append_left (by omega), List.getElem?_eq_getElem (by omega)]
        rw [byteVal_far _ _ (by simp; omega)]
        simp [packB]
    · simp only [if_neg hm]
      have hpl : (packB l).length = l.length / 8 + 1 := by rw [packB_length]; omega
      by_cases hj2 : j = l.length / 8
      · subst hj2
        rw [List.getElem?_set_self (by omega), packB_get _ _ (by omega), byteVal_snoc _ _ (by simp; omega)]
        have e3 : (l.drop (8 * (l.length / 8))).length = l.length % 8 := by simp; omega
        rw [e3]
      · rw [List.getElem?_set_ne (by omega), List.getElem?_eq_getElem (by omega), byteVal_far _ _ (by simp; omega)]
        simp [packB]
  · rw [List.getElem?_eq_none (by omega), List.getElem?_eq_none]
    rw [List.length_set]
    split
    · simp [packB_length]; omega
    · rw [packB_length]; omega

/-- The byte that a bit goes into has 0 from there on. -/
theorem packB_low (l : List Int) (h : l.length % 8 ≠ 0) : (packB l).getD (l.length / 8) 0 % 2 ^ (8 - l.length % 8) = 0 := by
  rw [packB_get _ _ (by omega)]
  have e3 : (l.drop (8 * (l.length / 8))).length = l.length % 8 := by simp; omega
  generalize l.drop (8 * (l.length / 8)) = m at e3
  rw [← e3]
  have h8 : m.length < 8 := by omega
  have hz : ∀ i, m.length ≤ i → m.getD i 0 = 0 := fun i hi => by rw [List.getD_eq_getElem?_getD, List.getElem?_eq_none hi]; rfl
  unfold byteVal
  have hc : m.length = 1 ∨ m.length = 2 ∨ m.length = 3 ∨ m.length = 4 ∨ m.length = 5 ∨ m.length = 6 ∨ m.length = 7 := by omega
  rcases hc with hc | hc | hc | hc | hc | hc | hc
  · rw [hz 1 (by omega), hz 2 (by omega), hz 3 (by omega), hz 4 (by omega), hz 5 (by omega), hz 6 (by omega), hz 7 (by omega), hc]; simp
  · rw [hz 2 (by omega), hz 3 (by omega), hz 4 (by omega), hz 5 (by omega), hz 6 (by omega), hz 7 (by omega), hc]; simp; omega
  · rw [hz 3 (by omega), hz 4 (by omega), hz 5 (by omega), hz 6 (by omega), hz 7 (by omega), hc]; simp; omega
  · rw [hz 4 (by omega), hz 5 (by omega), hz 6 (by omega), hz 7 (by omega), hc]; simp; omega
  · rw [hz 5 (by omega), hz 6 (by omega), hz 7 (by omega), hc]; simp; omega
  · rw [hz 6 (by omega), hz 7 (by omega), hc]; simp; omega
  · rw [hz 7 (by omega), hc]; simp; omega

end Go.Proofs.Ytapicoienpbdfaa.Gv


namespace Go.Proofs.Ytapicoienpbdfaa.Gv
open Go.RowKit Go.Proofs.YtapicoienpbdfaaW.PrintWords
set_option linter.unusedVariables false

/-- The writer lies in block B and has laid these bits. -/
def Wr (B : Nat) (wr : World) (bits : List Int) : Prop :=
  ∃ v, wr.heap[B]? = some (.cells #[v, .int .i64 bits.length] 127 (0, 0)) ∧ wr.ownsRow (B + 1) 5 1 v (packB bits).length ((packB bits).map (Value.int .u8)) ∧ IsBits bits
/-- What a step of the writer leaves as it was. -/
def Fr (B : Nat) (wr w' : World) : Prop := ∀ k o, B < k → wr.heap[k]? = some o → (∀ cs, o ≠ .cells cs 5 (0, 0)) → w'.heap[k]? = some o

theorem infoU8 : (Try.prog.info? 5).map (fun i => (i.zero, i.size, i.bytes)) = some (some (.int .u8 0), 1, 1) := by kernel_rfl

theorem wraps_u64 (n : Int) (h₀ : 0 ≤ n) (h₁ : n < 2 ^ 64) : IntKind.u64.wrap n = n := by simp [IntKind.wrap, IntKind.bits, IntKind.signed]; omega
theorem and_one (v : Int) (h0 : 0 ≤ v) (h1 : v ≤ 18446744073709551615) : Go.bits .and .u64 v 1 = v % 2 :=
  bits_mask .u64 64 (by decide) wraps_u64 1 (by decide) v h0 (by omega)
/-- The bit goes into the byte. -/
theorem or_bit (x v : Int) (m : Nat) (hx0 : 0 ≤ x) (hx1 : x ≤ 255) (hm : m ≤ 7) (hl : x % 2 ^ (8 - m) = 0) (h0 : 0 ≤ v) (h1 : v ≤ 18446744073709551615) :
    Go.bits .or .u8 x (Go.bits .and .u64 v 1 % 256 * 2 ^ (7 - m) % 256) = x + v % 2 * 2 ^ (7 - m) := by
  rw [and_one v h0 h1]
  have hv := mod2 v
  have hp : (1 : Int) ≤ 2 ^ (7 - m) ∧ (2 : Int) ^ (7 - m) ≤ 128 ∧ (2 : Int) ^ (8 - m) = 2 * 2 ^ (7 - m) := by
    have : m = 0 ∨ m = 1 ∨ m = 2 ∨ m = 3 ∨ m = 4 ∨ m = 5 ∨ m = 6 ∨ m = 7 := by omega
    rcases this with h | h | h | h | h | h | h | h <;> subst h <;> decide
  generalize (2 : Int) ^ (7 - m) = q at hp
  have e : v % 2 % 256 * q % 256 = v % 2 * q := by rcases hv with h | h <;> rw [h] <;> omega
  rw [e]
  exact bits_join .u8 8 (by decide) wraps_u8 (8 - m) x _ hx0 hl (by omega) (by rcases hv with h | h <;> rw [h] <;> omega) (by rw [hp.2.2]; rcases hv with h | h <;> rw [h] <;> omega) (by rcases hv with h | h <;> rw [h] <;> omega)

/-- The row behind the store; n bits have been laid ahead of it. -/
theorem wr_step (B g cap : Nat) (bits : List Int) (v : Int) (wr w2 : World) (hb : bits.length ≤ 1000000000) (hbits : IsBits bits) (hv0 : 0 ≤ v) (hv1 : v ≤ 18446744073709551615)
    (ro : List Int) (hro : ro = if bits.length % 8 = 0 then packB bits ++ [0] else packB bits)
    (hblk : w2.heap[B]? = some (.cells #[.slice (some ⟨g, 0, none⟩) ro.length cap, .int .i64 bits.length] 127 (0, 0)))
    (hown : w2.ownsRow (B + 1) 5 1 (.slice (some ⟨g, 0, none⟩) ro.length cap) ro.length (ro.map (Value.int .u8)))
    (hbel : Below B wr w2) (hfr : Fr B wr w2) (hg : ∀ o, wr.heap[g]? = some o → B < g → ∃ cs, o = .cells cs 5 (0, 0)) (x : Int) (hx : x = ro.getD (bits.length / 8) 0 + v % 2 * 2 ^ (7 - bits.length % 8)) :
    Wr B ((w2.setCell ⟨g, bits.length / 8, none⟩ (.int .u8 x)).setCell ⟨B, 1, none⟩ (.int .i64 ((bits.length : Int) + 1))).drew (bits ++ [v % 2]) ∧
    Below B wr ((w2.setCell ⟨g, bits.length / 8, none⟩ (.int .u8 x)).setCell ⟨B, 1, none⟩ (.int .i64 ((bits.length : Int) + 1))).drew ∧
    Fr B wr ((w2.setCell ⟨g, bits.length / 8, none⟩ (.int .u8 x)).setCell ⟨B, 1, none⟩ (.int .i64 ((bits.length : Int) + 1))).drew := by
  have hBg := (hown.lt g rfl).1
  have hsn := packB_snoc bits (v % 2)
  rw [← hro, ← hx] at hsn
  have hlen : (packB (bits ++ [v % 2])).length = ro.length := by rw [hsn, List.length_set]
  have hst := (hown.stored (bits.length / 8) (.int .u8 x)).1
  have hb1 : (w2.setCell ⟨g, bits.length / 8, none⟩ (.int .u8 x)).heap[B]? = some (.cells #[.slice (some ⟨g, 0, none⟩) ro.length cap, .int .i64 bits.length] 127 (0, 0)) := blk_far hblk (by show B ≠ g; omega) _
  refine ⟨⟨.slice (some ⟨g, 0, none⟩) ro.length cap, ?_, ?_, hbits.append (fun b hb => by simp at hb; subst hb; exact mod2 v)⟩, ?_, ?_⟩
  · have := blk_put hb1 1 (.int .i64 ((bits.length : Int) + 1)) (cs' := #[.slice (some ⟨g, 0, none⟩) ro.length cap, .int .i64 ((bits ++ [v % 2]).length)]) (by simp)
    exact this
  · rw [hlen]
    have h2 := own_setCell hst (p := ⟨B, 1, none⟩) (by simp [Value.ownBlock]; omega) (.int .i64 ((bits.length : Int) + 1))
    rw [hsn, List.map_set]
    exact h2
  · exact ((hbel.setCell (p := ⟨g, bits.length / 8, none⟩) (by show B ≤ g; omega) _).setCell (p := ⟨B, 1, none⟩) (Nat.le_refl _) _).drew
  · intro k o hk ho hno
    have h0 := hfr k o hk ho hno
    have hkg : k ≠ g := fun e => by
      subst e
      obtain ⟨cs, hcs⟩ := hg o ho hk
      exact hno cs hcs
    show ((w2.setCell ⟨g, bits.length / 8, none⟩ (.int .u8 x)).setCell ⟨B, 1, none⟩ (.int .i64 ((bits.length : Int) + 1))).heap[k]? = some o
    rw [Below.heap_setCell _ _ _ _ (by show k ≠ B; omega), Below.heap_setCell _ _ _ _ (by show k ≠ g; exact hkg)]
    exact h0

theorem own_type {w : World} {base : Nat} {e : TypeId} {size n g m cap : Nat} {xs : List Value} (h : w.ownsRow base e size (.slice (some ⟨g, 0, none⟩) m cap) n xs) {B : Nat} : ∀ o, w.heap[g]? = some o → B < g → ∃ cs, o = .cells cs e (0, 0) := by
  intro o ho _
  rcases h.2 with ⟨h', _⟩ | ⟨g', cap', cur, h', _, hg, _⟩
  · simp at h'
  · simp only [Value.slice.injEq, Option.some.injEq, Addr.mk.injEq, and_true] at h'
    obtain ⟨rfl, _⟩ := h'
    rw [hg] at ho
    exact ⟨cur, (Option.some.inj ho).symm⟩

set_option maxHeartbeats 1600000 in
set_option maxRecDepth 100000 in
theorem bit_on (B : Nat) (bits : List Int) (v : Int) (wr : World) (h : Wr B wr bits) (hv0 : 0 ≤ v) (hv1 : v ≤ 18446744073709551615) (hb : bits.length ≤ 1000000000) (hm : bits.length % 8 ≠ 0) :
    Calls Try.prog 70 #[.pointer (some ⟨B, 0, none⟩), .int .u64 v] wr fun e w' => e = .returned (.tuple #[]) ∧ Wr B w' (bits ++ [v % 2]) ∧ Below B wr w' ∧ Fr B wr w' := by
  obtain ⟨u, hblk, hown, hbits⟩ := h
  have hpl := packB_length bits
  have hex : ∃ g cap, u = .slice (some ⟨g, 0, none⟩) (packB bits).length cap := by
    obtain ⟨_, hcase⟩ := hown
    rcases hcase with ⟨_, h0⟩ | ⟨g', cap', cur', h, _⟩
    · omega
    · exact ⟨g', cap', h⟩
  obtain ⟨g, cap, rfl⟩ := hex
  have hc0 : wr.cell? ⟨B, 0, none⟩ = some (.slice (some ⟨g, 0, none⟩) (packB bits).length cap) := (blk_cell hblk 0).trans rfl
  have hc1 : wr.cell? ⟨B, 1, none⟩ = some (.int .i64 bits.length) := (blk_cell hblk 1).trans rfl
  have hf1 := blk_frozen hblk 1
  have hr1 : wr.cell? ⟨g, bits.length / 8, none⟩ = some (.int .u8 ((packB bits).getD (bits.length / 8) 0)) := by
    rw [hown.cellAt (bits.length / 8) (by omega), List.getElem?_map, List.getElem?_eq_getElem (by omega), List.getD_eq_getElem?_getD, List.getElem?_eq_getElem (by omega)]; rfl
  have hfr := hown.frozenAt (bits.length / 8)
  have hne := (hown.lt g rfl).1
  have ht8 : ((bits.length : Int) % 8 == 0) = false := by rw [beq_eq_false_iff_ne]; omega
  have hi0 : (0 : Int) ≤ (bits.length : Int) / 8 := by omega
  have hi1 : (bits.length : Int) / 8 < ((packB bits).length : Int) := by omega
  clear hpl
  go_enter Try.func70, Try.ntmps70
  go_wp2
  go_region
  all_goals (try go_wp2)
  go_end0
  refine ⟨rfl, ?_⟩
  have hget : (packB bits)[bits.length / 8]?.getD 0 = (packB bits).getD (bits.length / 8) 0 := (List.getD_eq_getElem?_getD).symm
  have hrg : 0 ≤ (packB bits).getD (bits.length / 8) 0 ∧ (packB bits).getD (bits.length / 8) 0 ≤ 255 := by
    have hlt : bits.length / 8 < (packB bits).length := by omega
    rw [List.getD_eq_getElem?_getD, List.getElem?_eq_getElem hlt]
    exact packB_range hbits _ (List.getElem_mem hlt)
  rw [hget, or_bit _ v (bits.length % 8) hrg.1 hrg.2 (by omega) (packB_low bits hm) hv0 hv1]
  exact wr_step B g cap bits v wr wr hb hbits hv0 hv1 (packB bits) (by rw [if_neg hm]) hblk hown (Below.refl _ _) (fun _ _ _ h _ => h) (own_type hown) _ rfl

set_option maxHeartbeats 1600000 in
set_option maxRecDepth 100000 in
theorem bit_new (B : Nat) (bits : List Int) (v : Int) (wr : World) (h : Wr B wr bits) (hv0 : 0 ≤ v) (hv1 : v ≤ 18446744073709551615) (hb : bits.length ≤ 1000000000) (hm : bits.length % 8 = 0) :
    Calls Try.prog 70 #[.pointer (some ⟨B, 0, none⟩), .int .u64 v] wr fun e w' => e = .returned (.tuple #[]) ∧ Wr B w' (bits ++ [v % 2]) ∧ Below B wr w' ∧ Fr B wr w' := by
  obtain ⟨u, hblk, hown, hbits⟩ := h
  obtain ⟨i, hi, hz0, hz1, hz2⟩ := info_parts infoU8
  have hpl := packB_length bits
  have hlen1 : (packB bits).length = bits.length / 8 := by omega
  have hBlt := blk_lt hblk
  have hc0 : wr.cell? ⟨B, 0, none⟩ = some u := (blk_cell hblk 0).trans rfl
  have hc1 : wr.cell? ⟨B, 1, none⟩ = some (.int .i64 bits.length) := (blk_cell hblk 1).trans rfl
  have hf0 := blk_frozen hblk 0
  have hf1 := blk_frozen hblk 1
  have ht8 : ((bits.length : Int) % 8 == 0) = true := by rw [beq_iff_eq]; omega
  have hreach : (packB bits).length + 1 ≤ 140737488355328 := by omega
  have Hl := Lib.hid hlen1
  have Hm := Lib.hid hm
  clear hpl hlen1 hm
  go_enter Try.func70, Try.ntmps70
  go_wp2_with (at_builtin; refine wpList_append_own _ rfl (.tmp 14) (.tmp 15) 73 rfl (B + 1) 5 i (.int .u8 0) 1 1 Try.underlying73 hi hz0 hz1 hz2 rfl (by decide) u (packB bits).length _ rfl (hown.alloc _) ⟨wr.heap.size, 0, none⟩ 1 1 [.int .u8 0] rfl rfl ?c1 ?c2 (by unfold maxLen; omega) (by omega) (by simp; omega) ?_)
  case c1 =>
    intro j u hj
    match j, hj with
    | 0, hj => simp at hj; subst hj; simp [Addr.add]
  case c2 => intro u hu; simp at hu; subst hu; rfl
  intro v' w1 hown' hgrow _
  have hex : ∃ g' cap', v' = .slice (some ⟨g', 0, none⟩) ((packB bits).length + 1) cap' := by
    obtain ⟨_, hcase⟩ := hown'
    rcases hcase with ⟨_, h0⟩ | ⟨g', cap', cur', h, _⟩
    · omega
    · exact ⟨g', cap', h⟩
  obtain ⟨g, cap, rfl⟩ := hex
  have hne : some B ≠ u.ownBlock := fun h => by have := hown.lt B h.symm; omega
  have hb1 : w1.heap[B]? = some (.cells #[u, .int .i64 bits.length] 127 (0, 0)) := blk_grown (blk_alloc hblk _) hgrow hne
  have hb2 : (w1.setCell ⟨B, 0, none⟩ (.slice (some ⟨g, 0, none⟩) ((packB bits).length + 1) cap)).heap[B]? = some (.cells #[.slice (some ⟨g, 0, none⟩) ((packB bits).length + 1) cap, .int .i64 bits.length] 127 (0, 0)) := blk_put hb1 0 _ (by simp)
  have hBg := (hown'.lt g rfl).1
  have hown2 : (w1.setCell ⟨B, 0, none⟩ (.slice (some ⟨g, 0, none⟩) ((packB bits).length + 1) cap)).ownsRow (B + 1) 5 1 (.slice (some ⟨g, 0, none⟩) ((packB bits).length + 1) cap) ((packB bits).length + 1) ((packB bits).map (Value.int .u8) ++ [.int .u8 0]) := own_setCell hown' (by simp [Value.ownBlock]; omega) _
  have hbel : Below B wr (w1.setCell ⟨B, 0, none⟩ (.slice (some ⟨g, 0, none⟩) ((packB bits).length + 1) cap)) :=
    (((Below.refl B wr).alloc (by omega) _).grown hgrow (by simp; omega) (fun k hk => by have := (hown.lt k hk).1; omega)).setCell (Nat.le_refl B) _
  have hfr2 : Fr B wr (w1.setCell ⟨B, 0, none⟩ (.slice (some ⟨g, 0, none⟩) ((packB bits).length + 1) cap)) := by
    intro k o hk ho hno
    rw [Below.heap_setCell _ _ _ _ (by show k ≠ B; omega)]
    refine blk_grown (blk_alloc ho _) hgrow (fun e => ?_)
    rcases hown.2 with ⟨h', _⟩ | ⟨g', cap', cur, h', _, hg, _⟩
    · rw [h'] at e; simp [Value.ownBlock] at e
    · rw [h'] at e; simp [Value.ownBlock] at e; subst e; rw [hg] at ho; exact hno cur (Option.some.inj ho).symm
  have hgt : ∀ o, wr.heap[g]? = some o → B < g → ∃ cs, o = .cells cs 5 (0, 0) := by
    intro o ho hBg
    by_cases e : some g = u.ownBlock
    · rcases hown.2 with ⟨h', _⟩ | ⟨g', cap', cur, h', _, hg, _⟩
      · rw [h'] at e; simp [Value.ownBlock] at e
      · rw [h'] at e; simp [Value.ownBlock] at e; subst e; rw [hg] at ho; exact ⟨cur, (Option.some.inj ho).symm⟩
    · have := blk_grown (blk_alloc ho _) hgrow e
      exact own_type hown' (B := B) o this hBg
  have hv1c : w1.cell? ⟨B, 0, none⟩ = some u := (blk_cell hb1 0).trans rfl
  have hv1f := blk_frozen hb1 0
  go_wp2_with fail
  obtain ⟨w2, hw2⟩ : ∃ w2, w1.setCell ⟨B, 0, none⟩ (.slice (some ⟨g, 0, none⟩) ((packB bits).length + 1) cap) = w2 := ⟨_, rfl⟩
  rw [hw2] at hb2 hown2 hbel hfr2 ⊢
  clear hw2 hv1c hv1f hb1 hown' hgrow hc0 hc1 hf0 hf1
  have hc0 : w2.cell? ⟨B, 0, none⟩ = some (.slice (some ⟨g, 0, none⟩) ((packB bits).length + 1) cap) := (blk_cell hb2 0).trans rfl
  have hc1 : w2.cell? ⟨B, 1, none⟩ = some (.int .i64 bits.length) := (blk_cell hb2 1).trans rfl
  have hf1 := blk_frozen hb2 1
  have hr1 : w2.cell? ⟨g, bits.length / 8, none⟩ = some (.int .u8 0) := by
    rw [hown2.cellAt (bits.length / 8) (by have := Hl.out; omega), ← Hl.out, List.getElem?_append_right (by simp)]; simp
  have hfr := hown2.frozenAt (bits.length / 8)
  have hi0 : (0 : Int) ≤ (bits.length : Int) / 8 := by omega
  have hi1 : (bits.length : Int) / 8 < ((packB bits).length : Int) + 1 := by have := Hl.out; omega
  go_region
  all_goals (try go_wp2)
  go_end0
  refine ⟨rfl, ?_⟩
  have e0 := or_bit 0 v (bits.length % 8) (by omega) (by omega) (by omega) (Int.zero_emod _) hv0 hv1
  rw [e0]
  have hlr : (packB bits ++ [0]).length = (packB bits).length + 1 := by simp
  exact wr_step B g cap bits v wr w2 hb hbits hv0 hv1 (packB bits ++ [0]) (by rw [if_pos Hm.out]) (by rw [hlr]; exact hb2) (by rw [hlr, List.map_append]; exact hown2) hbel hfr2 hgt _ (by
    rw [← Hl.out, List.getD_eq_getElem?_getD, List.getElem?_append_right (by omega)]; simp)

/-- The method bit, whatever has been laid. -/
theorem bit_any (B : Nat) (bits : List Int) (v : Int) (wr : World) (h : Wr B wr bits) (hv0 : 0 ≤ v) (hv1 : v ≤ 18446744073709551615) (hb : bits.length ≤ 1000000000) :
    Calls Try.prog 70 #[.pointer (some ⟨B, 0, none⟩), .int .u64 v] wr fun e w' => e = .returned (.tuple #[]) ∧ Wr B w' (bits ++ [v % 2]) ∧ Below B wr w' ∧ Fr B wr w' := by
  by_cases hm : bits.length % 8 = 0
  · exact bit_new B bits v wr h hv0 hv1 hb hm
  · exact bit_on B bits v wr h hv0 hv1 hb hm

end Go.Proofs.Ytapicoienpbdfaa.Gv


namespace Go.Proofs.Ytapicoienpbdfaa.Gv
open Go.RowKit Go.Proofs.YtapicoienpbdfaaW.PrintWords
set_option linter.unusedVariables false

theorem may_calls (n : Int) (w : World) :
    Calls Try.prog 69 #[.int .i64 n] w fun e w' => e = .returned (.bool (decide (1 ≤ n) && decide (n ≤ 64))) ∧ w' = w := by
  by_cases h : 1 ≤ n
  · have hd : decide (1 ≤ n) = true := by simpa using h
    go_enter Try.func69, Try.ntmps69
    go_wp2
    go_ret
    simp [h]
  · have hd : decide (1 ≤ n) = false := by simpa using h
    go_enter Try.func69, Try.ntmps69
    go_wp2
    go_ret
    simp

theorem may_yes (n : Int) (w : World) (h1 : 1 ≤ n) (h2 : n ≤ 64) : Calls Try.prog 69 #[.int .i64 n] w fun e w' => e = .returned (.bool true) ∧ w = w' :=
  (may_calls n w).mono fun e w' ⟨he, hw⟩ => ⟨by rw [he]; simp [h1, h2], hw.symm⟩
theorem may_no (n : Int) (w : World) (h : ¬ (1 ≤ n ∧ n ≤ 64)) : Calls Try.prog 69 #[.int .i64 n] w fun e w' => e = .returned (.bool false) ∧ w = w' :=
  (may_calls n w).mono fun e w' ⟨he, hw⟩ => ⟨by rw [he]; simp; omega, hw.symm⟩
theorem all_bad {l : List (Int × Int)} {k : Nat} (h : k < l.length) (hb : okPart (l.getD k (0, 0)) = false) : l.all okPart = false := by
  rw [List.all_eq_false]
  exact ⟨l.getD k (0, 0), by rw [List.getD_eq_getElem?_getD, List.getElem?_eq_getElem h]; exact List.getElem_mem h, by rw [hb]; simp⟩
theorem all_snoc {l : List (Int × Int)} {k : Nat} (h : k < l.length) (ha : (l.take k).all okPart = true) (hb : okPart (l.getD k (0, 0)) = true) : (l.take (k + 1)).all okPart = true := by
  rw [List.take_succ_eq_append_getElem h, List.all_append, ha]
  rw [List.getD_eq_getElem?_getD, List.getElem?_eq_getElem h] at hb
  simpa using hb

theorem allBits_snoc (l : List (Int × Int)) (k : Nat) (h : k < l.length) : allBits (l.take (k + 1)) = allBits (l.take k) ++ bitsOf (l.getD k (0, 0)).1.toNat (l.getD k (0, 0)).2 := by
  rw [List.take_succ_eq_append_getElem h]
  simp only [allBits, List.flatMap_append]
  simp [List.getD_eq_getElem?_getD, h]
theorem bitsOf_snoc (w j : Nat) (v : Int) (h : j < w) : (bitsOf w v).take (j + 1) = (bitsOf w v).take j ++ [v / 2 ^ (w - 1 - j) % 2] := by
  rw [List.take_succ_eq_append_getElem (by rw [bitsOf_length]; exact h)]
  simp [bitsOf]
theorem allBits_length (l : List (Int × Int)) (h : l.all okPart = true) : (allBits l).length ≤ 64 * l.length := by
  induction l with
  | nil => simp [allBits]
  | cons p l ih =>
    simp only [List.all_cons, Bool.and_eq_true] at h
    have := ih h.2
    have hp := h.1
    simp only [okPart, Bool.and_eq_true, decide_eq_true_eq] at hp
    simp only [allBits, List.flatMap_cons, List.length_append, bitsOf_length, List.length_cons] at this ⊢
    omega
theorem wr_new (w : World) : Wr w.heap.size (w.alloc (.cells #[.slice none 0 0, .int .i64 0] 127)) [] :=
  ⟨.slice none 0 0, by simpa using heap_alloc_new w _, World.ownsRow_nil _ _ _ _, fun b hb => by simp at hb⟩
theorem Wr.cells {B : Nat} {wr : World} {bits : List Int} (h : Wr B wr bits) : ∃ A c, wr.cell? ⟨B, 0, none⟩ = some (.slice A (packB bits).length c) ∧ wr.cell? ⟨B, 1, none⟩ = some (.int .i64 bits.length) ∧ wr.ownsRow (B + 1) 5 1 (.slice A (packB bits).length c) (packB bits).length ((packB bits).map (Value.int .u8)) := by
  obtain ⟨v, hb, ho, _⟩ := h
  have ho' := ho
  obtain ⟨_, hcase⟩ := ho
  rcases hcase with ⟨rfl, h0⟩ | ⟨g, cap, _, rfl, _⟩
  · exact ⟨none, 0, by rw [h0]; exact (blk_cell hb 0).trans rfl, (blk_cell hb 1).trans rfl, by rw [h0] at ho' ⊢; exact ho'⟩
  · exact ⟨_, _, (blk_cell hb 0).trans rfl, (blk_cell hb 1).trans rfl, ho'⟩
theorem Wr.alloc {B : Nat} {wr : World} {bits : List Int} (h : Wr B wr bits) (o : Obj) : Wr B (wr.alloc o) bits := by
  obtain ⟨v, hb, ho, hi⟩ := h
  exact ⟨v, blk_alloc hb o, ho.alloc o, hi⟩

set_option maxHeartbeats 3200000 in
set_option maxRecDepth 100000 in
theorem pack_calls (A : Option Addr) (c : Nat) (l : List (Int × Int)) (w : World)
    (hp : ∀ i : Nat, i < l.length → ∃ ad, A = some ad ∧ w.cell? (ad.add (i * 2)) = some (.int .i64 (l.getD i (0, 0)).1) ∧ w.cell? ⟨(ad.add (i * 2)).block, (ad.add (i * 2)).off + 1, none⟩ = some (.int .u64 (l.getD i (0, 0)).2))
    (hc : l.length ≤ c) (r1 : ByteArray) (r2 : Int) (h : pack l = some (r1, r2)) :
    Calls Try.prog 55 #[.slice A l.length c] w fun e w' => e = .returned (.tuple #[.string r1, .int .i64 r2]) ∧ Below w.heap.size w w' := by
  unfold pack at h
  have hg : isU64 l = true ∧ l.length ≤ 1000000 := by
    by_cases hg : isU64 l = true ∧ l.length ≤ 1000000
    · exact hg
    · rw [if_neg hg] at h; cases h
  rw [if_pos hg] at h
  obtain ⟨hu, hlen⟩ := hg
  have H := Lib.hid h
  have HP := Lib.hid hp
  have HU := Lib.hid hu
  clear h hp hu
  have hw0 := wr_new w
  go_enter Try.func55, Try.ntmps55
  go_wp2_with fail
  go_loopw [12] (fun i wr => ∃ k : Nat, k ≤ l.length ∧ i = .int .i64 k ∧ Wr w.heap.size wr (allBits (l.take k)) ∧ Below w.heap.size w wr ∧ Hid ((l.take k).all okPart = true)) (fun i _ => l.length - (intOf i).toNat)
  case atStart => exact ⟨0, Nat.zero_le _, rfl, hw0, (Below.refl _ _).alloc (Nat.le_refl _) _, Lib.hid rfl⟩
  case round =>
    obtain ⟨k, hk, rfl, hwr, hbel, hok⟩ := hrel
    by_cases hlt : k < l.length
    · obtain ⟨ad, hA, hq0, hq1⟩ := HP.out k hlt
      subst hA
      obtain ⟨pw, hpw⟩ : ∃ pw, (l.getD k (0, 0)).1 = pw := ⟨_, rfl⟩
      obtain ⟨pv, hpv⟩ : ∃ pv, (l.getD k (0, 0)).2 = pv := ⟨_, rfl⟩
      have hpb : 0 ≤ pv ∧ pv ≤ 18446744073709551615 := by
        have h1 := List.all_eq_true.1 HU.out (l.getD k (0, 0)) (by rw [List.getD_eq_getElem?_getD, List.getElem?_eq_getElem hlt]; exact List.getElem_mem hlt)
        simp only [Bool.and_eq_true, decide_eq_true_eq, hpv, u64max] at h1
        exact h1
      rw [hpw] at hq0
      rw [hpv] at hq1
      have hd0 : wr.cell? (ad.add (k * 2)) = some (.int .i64 pw) := (hbel.cell (World.block_lt_of_cell? w _ hq0)).trans hq0
      have hd1 : wr.cell? ⟨(ad.add (k * 2)).block, (ad.add (k * 2)).off + 1, none⟩ = some (.int .u64 pv) := (hbel.cell (World.block_lt_of_cell? w _ hq1)).trans hq1
      have HW := Lib.hid hpw
      have HV := Lib.hid hpv
      clear hq0 hq1 hpw hpv
      obtain ⟨hv0, hv1⟩ := hpb
      by_cases hmay : 1 ≤ pw ∧ pw ≤ 64
      · obtain ⟨hm1, hm2⟩ := hmay
        obtain ⟨n, rfl⟩ := Int.eq_ofNat_of_zero_le (show 0 ≤ pw by omega)
        by_cases hgood : (n : Int) < 64 ∧ 0 < pv / 2 ^ n
        · -- a value that has more bits
          obtain ⟨hg1, hg2⟩ := hgood
          have hgb : decide (0 < pv / 2 ^ n) = true := by simpa using hg2
          go_wp2_with (go_at_call 69; refine (may_yes _ _ hm1 hm2).mono ?_; rintro e w' ⟨rfl, rfl⟩)
          go_ret2
          have hbad : l.all okPart = false := all_bad hlt (by
            simp only [okPart, HW.out, HV.out, Int.toNat_natCast]
            have h1 : ¬ (64 : Int) ≤ n := by omega
            have h2 : ¬ pv / 2 ^ n = 0 := by omega
            simp [h1, h2])
          have hR := H.out
          rw [hbad] at hR
          simp only [Bool.false_eq_true, if_false, Option.some.injEq, Prod.mk.injEq] at hR
          obtain ⟨rfl, rfl⟩ := hR
          exact ⟨rfl, hbel.alloc (by have := hbel.size; omega) _⟩
        · have hok1 : okPart (l.getD k (0, 0)) = true := by
            simp only [okPart, HW.out, HV.out, Int.toNat_natCast, Bool.and_eq_true, Bool.or_eq_true, decide_eq_true_eq]
            refine ⟨⟨hm1, hm2⟩, ?_⟩
            by_cases h64 : (64 : Int) ≤ n
            · exact .inl h64
            · have h0 : 0 ≤ pv / 2 ^ n := Int.ediv_nonneg hv0 (Int.le_of_lt (Int.pow_pos (by decide)))
              have : ¬ 0 < pv / 2 ^ n := fun h => hgood ⟨by omega, h⟩
              exact .inr (by omega)
          have hok2 := Lib.hid (all_snoc hlt hok.out hok1)
          have hal := allBits_snoc l k hlt
          rw [HW.out, HV.out, Int.toNat_natCast] at hal
          have HAL := Lib.hid hal
          have hll : (allBits (l.take k)).length ≤ 64000000 := by
            have := allBits_length (l.take k) hok.out
            have : (l.take k).length ≤ k := List.length_take_le _ _
            omega
          clear hal hok1
          have hbn : w.heap.size < wr.heap.size := by
            obtain ⟨_, hb, _⟩ := hwr
            exact blk_lt hb
          have hwr1 := hwr.alloc (.cells #[.int .i64 n, .int .u64 pv] 100)
          have hbel1 := hbel.alloc (Nat.le_of_lt hbn) (.cells #[.int .i64 n, .int .u64 pv] 100)
          have hpb1 : (wr.alloc (.cells #[.int .i64 n, .int .u64 pv] 100)).heap[wr.heap.size]? = some (.cells #[.int .i64 n, .int .u64 pv] 100 (0, 0)) := by simpa using heap_alloc_new wr _
          by_cases h64 : (n : Int) < 64
          · have hgb : decide (0 < pv / 2 ^ n) = false := by
              rw [decide_eq_false_iff_not]; exact fun h => hgood ⟨h64, h⟩
            go_wp2_with (go_at_call 69; refine (may_yes _ _ hm1 hm2).mono ?_; rintro e w' ⟨rfl, rfl⟩)
            obtain ⟨w1, hw1⟩ : ∃ w1, wr.alloc (.cells #[.int .i64 n, .int .u64 pv] 100) = w1 := ⟨_, rfl⟩
            rw [hw1] at hwr1 hbel1 hpb1 ⊢
            obtain ⟨bp, hbp⟩ : ∃ bp, wr.heap.size = bp := ⟨_, rfl⟩
            rw [hbp] at hpb1 hbn ⊢
            clear hw1 hbp
            go_loopw [35] (fun i wv => ∃ j : Nat, j ≤ n ∧ i = .int .i64 j ∧ Wr w.heap.size wv (allBits (l.take k) ++ (bitsOf n pv).take j) ∧ Below w.heap.size w wv ∧ wv.heap[bp]? = some (.cells #[.int .i64 n, .int .u64 pv] 100 (0, 0))) (fun i _ => n - (intOf i).toNat)
            case atStart => exact ⟨0, Nat.zero_le _, rfl, by simpa using hwr1, hbel1, hpb1⟩
            case round =>
              obtain ⟨j, hj, rfl, hwr2, hbel2, hpb2⟩ := hrel
              have hc0 : wr.cell? ⟨bp, 0, none⟩ = some (.int .i64 n) := (blk_cell hpb2 0).trans rfl
              have hc1 : wr.cell? ⟨bp, 1, none⟩ = some (.int .u64 pv) := (blk_cell hpb2 1).trans rfl
              by_cases hjn : j < n
              · have hbl : (allBits (l.take k) ++ (bitsOf n pv).take j).length ≤ 1000000000 := by
                  rw [List.length_append, List.length_take, bitsOf_length]; omega
                go_wp2_with (go_at_call 70; refine (bit_any w.heap.size _ _ _ hwr2 (Int.ediv_nonneg hv0 (Int.le_of_lt (Int.pow_pos (by decide)))) (Int.le_trans (Int.ediv_le_self _ hv0) hv1) hbl).mono ?_; rintro e w' ⟨rfl, hwr3, hbel3, hfr3⟩)
                go_roundw
                case rel =>
                  refine ⟨j + 1, by omega, by go_num, ?_, hbel2.trans hbel3, hfr3 bp _ hbn hpb2 (fun cs hcs => by simp at hcs)⟩
                  rw [bitsOf_snoc n j pv hjn, ← List.append_assoc]
                  exact hwr3
                case measure => simp [intOf]; omega
              · go_wp2
                go_roundw
                case rel =>
                  have ej : j = n := by omega
                  subst ej
                  rw [List.take_of_length_le (l := bitsOf j pv) (i := j) (by rw [bitsOf_length]; exact Nat.le_refl _), ← HAL.out] at hwr2
                  exact ⟨k + 1, by omega, by go_num, hwr2, hbel2, hok2⟩
                case measure => simp [intOf]; omega
          · go_wp2_with (go_at_call 69; refine (may_yes _ _ hm1 hm2).mono ?_; rintro e w' ⟨rfl, rfl⟩)
            obtain ⟨w1, hw1⟩ : ∃ w1, wr.alloc (.cells #[.int .i64 n, .int .u64 pv] 100) = w1 := ⟨_, rfl⟩
            rw [hw1] at hwr1 hbel1 hpb1 ⊢
            obtain ⟨bp, hbp⟩ : ∃ bp, wr.heap.size = bp := ⟨_, rfl⟩
            rw [hbp] at hpb1 hbn ⊢
            clear hw1 hbp
            go_loopw [35] (fun i wv => ∃ j : Nat, j ≤ n ∧ i = .int .i64 j ∧ Wr w.heap.size wv (allBits (l.take k) ++ (bitsOf n pv).take j) ∧ Below w.heap.size w wv ∧ wv.heap[bp]? = some (.cells #[.int .i64 n, .int .u64 pv] 100 (0, 0))) (fun i _ => n - (intOf i).toNat)
            case atStart => exact ⟨0, Nat.zero_le _, rfl, by simpa using hwr1, hbel1, hpb1⟩
            case round =>
              obtain ⟨j, hj, rfl, hwr2, hbel2, hpb2⟩ := hrel
              have hc0 : wr.cell? ⟨bp, 0, none⟩ = some (.int .i64 n) := (blk_cell hpb2 0).trans rfl
              have hc1 : wr.cell? ⟨bp, 1, none⟩ = some (.int .u64 pv) := (blk_cell hpb2 1).trans rfl
              by_cases hjn : j < n
              · have hbl : (allBits (l.take k) ++ (bitsOf n pv).take j).length ≤ 1000000000 := by
                  rw [List.length_append, List.length_take, bitsOf_length]; omega
                go_wp2_with (go_at_call 70; refine (bit_any w.heap.size _ _ _ hwr2 (Int.ediv_nonneg hv0 (Int.le_of_lt (Int.pow_pos (by decide)))) (Int.le_trans (Int.ediv_le_self _ hv0) hv1) hbl).mono ?_; rintro e w' ⟨rfl, hwr3, hbel3, hfr3⟩)
                go_roundw
                case rel =>
                  refine ⟨j + 1, by omega, by go_num, ?_, hbel2.trans hbel3, hfr3 bp _ hbn hpb2 (fun cs hcs => by simp at hcs)⟩
                  rw [bitsOf_snoc n j pv hjn, ← List.append_assoc]
                  exact hwr3
                case measure => simp [intOf]; omega
              · go_wp2
                go_roundw
                case rel =>
                  have ej : j = n := by omega
                  subst ej
                  rw [List.take_of_length_le (l := bitsOf j pv) (i := j) (by rw [bitsOf_length]; exact Nat.le_refl _), ← HAL.out] at hwr2
                  exact ⟨k + 1, by omega, by go_num, hwr2, hbel2, hok2⟩
                case measure => simp [intOf]; omega
      · go_wp2_with (go_at_call 69; refine (may_no _ _ hmay).mono ?_; rintro e w' ⟨rfl, rfl⟩)
        go_ret2
        have hbad : l.all okPart = false := all_bad hlt (by simp only [okPart, HW.out]; by_cases h1 : 1 ≤ pw <;> simp [h1] <;> omega)
        have hR := H.out
        rw [hbad] at hR
        simp only [Bool.false_eq_true, if_false, Option.some.injEq, Prod.mk.injEq] at hR
        obtain ⟨rfl, rfl⟩ := hR
        exact ⟨rfl, hbel.alloc (by have := hbel.size; omega) _⟩
    · have hkl : k = l.length := by omega
      subst hkl
      have hok3 := hok.out
      rw [List.take_length] at hwr hok3
      have hR := H.out
      rw [if_pos hok3] at hR
      have HR := Lib.hid hR
      obtain ⟨Aw, cw, hcell0, hcell1, hown⟩ := hwr.cells
      clear hR hok3 hok
      by_cases hm : (allBits l).length % 8 = 0
      · have hmb : (((allBits l).length : Int) % 8 != 0) = false := by rw [bne_eq_false_iff_eq]; omega
        have HM := Lib.hid hm
        clear hm
        have hconv := own_string (P := Try.prog) (src := 73) (dst := 9) (xs := packB (allBits l)) Try.underlying73 Try.underlying5 Try.underlying9 hown
        clear hown
        go_wp2
        go_ret2
        have hR := HR.out
        rw [if_pos HM.out] at hR
        simp only [Option.some.injEq, Prod.mk.injEq] at hR
        obtain ⟨rfl, rfl⟩ := hR
        exact ⟨rfl, hbel⟩
      · clear hown
        have hmb : (((allBits l).length : Int) % 8 != 0) = true := by rw [bne_iff_ne]; omega
        have HM := Lib.hid hm
        clear hm
        go_wp2
        go_ret2
        have hR := HR.out
        rw [if_neg HM.out] at hR
        simp only [Option.some.injEq, Prod.mk.injEq] at hR
        obtain ⟨rfl, rfl⟩ := hR
        exact ⟨rfl, hbel⟩

end Go.Proofs.Ytapicoienpbdfaa.Gv


namespace Go.Proofs.Ytapicoienpbdfaa
open Go.Shelf Go.Proofs Go.RowKit

def Try.lays105_ren : Go.Shelf.Ren := ⟨fun | 105 => 42 | 212 => 61 | 99 => 62 | 165 => 63 | 166 => 64 | 170 => 65 | 169 => 66 | 263 => 74 | 264 => 75 | 206 => 76 | 240 => 77 | 241 => 78 | 276 => 82 | 277 => 83 | n => n, fun | 9 => 9 | 3 => 3 | 4 => 4 | 20 => 20 | 0 => 0 | 46 => 94 | 109 => 108 | 5 => 5 | 72 => 113 | 76 => 117 | 51 => 60 | 146 => 133 | 53 => 33 | 148 => 135 | 70 => 111 | 37 => 73 | 75 => 116 | 127 => 137 | 164 => 143 | 80 => 39 | n => n, fun | n => n⟩
theorem Try.lays105 : Go.Proofs.Lays.n105 Try.prog Try.lays105_ren := {
  mixed := by kernel_rfl,
  f99 := Try.func62.trans (congrArg some (by kernel_rfl)),
  f105 := Try.func42.trans (congrArg some (by kernel_rfl)),
  f165 := Try.func63.trans (congrArg some (by kernel_rfl)),
  f166 := Try.func64.trans (congrArg some (by kernel_rfl)),
  f169 := Try.func66.trans (congrArg some (by kernel_rfl)),
  f170 := Try.func65.trans (congrArg some (by kernel_rfl)),
  f206 := Try.func76.trans (congrArg some (by kernel_rfl)),
  f212 := Try.func61.trans (congrArg some (by kernel_rfl)),
  f240 := Try.func77.trans (congrArg some (by kernel_rfl)),
  f241 := Try.func78.trans (congrArg some (by kernel_rfl)),
  f263 := Try.func74.trans (congrArg some (by kernel_rfl)),
  f264 := Try.func75.trans (congrArg some (by kernel_rfl)),
  f276 := Try.func82.trans (congrArg some (by kernel_rfl)),
  f277 := Try.func83.trans (congrArg some (by kernel_rfl)),
  t0 := Try.underlying0,
  a0 := Try.isAgg0,
  z0 := Try.sizeOf0,
  v0 := Try.zeroValue0,
  t3 := Try.underlying3,
  a3 := Try.isAgg3,
  z3 := Try.sizeOf3,
  v3 := Try.zeroValue3,
  t4 := Try.underlying4,
  a4 := Try.isAgg4,
  z4 := Try.sizeOf4,
  v4 := Try.zeroValue4,
  t5 := Try.underlying5,
  a5 := Try.isAgg5,
  z5 := Try.sizeOf5,
  v5 := Try.zeroValue5,
  t9 := Try.underlying9,
  a9 := Try.isAgg9,
  z9 := Try.sizeOf9,
  v9 := Try.zeroValue9,
  t20 := Try.underlying20,
  a20 := Try.isAgg20,
  z20 := Try.sizeOf20,
  v20 := Try.zeroValue20,
  t37 := Try.underlying73,
  a37 := Try.isAgg73,
  z37 := Try.sizeOf73,
  v37 := Try.zeroValue73,
  t46 := Try.underlying94,
  a46 := Try.isAgg94,
  z46 := Try.sizeOf94,
  v46 := Try.zeroValue94,
  t51 := Try.underlying60,
  a51 := Try.isAgg60,
  z51 := Try.sizeOf60,
  v51 := Try.zeroValue60,
  t53 := Try.underlying33,
  a53 := Try.isAgg33,
  z53 := Try.sizeOf33,
  v53 := Try.zeroValue33,
  t70 := Try.underlying111,
  a70 := Try.isAgg111,
  z70 := Try.sizeOf111,
  v70 := Try.zeroValue111,
  t72 := Try.underlying113,
  a72 := Try.isAgg113,
  z72 := Try.sizeOf113,
  v72 := Try.zeroValue113,
  t75 := Try.underlying116,
  a75 := Try.isAgg116,
  z75 := Try.sizeOf116,
  v75 := Try.zeroValue116,
  t76 := Try.underlying117,
  a76 := Try.isAgg117,
  z76 := Try.sizeOf117,
  v76 := Try.zeroValue117,
  t109 := Try.underlying108,
  a109 := Try.isAgg108,
  z109 := Try.sizeOf108,
  v109 := Try.zeroValue108,
  t127 := Try.underlying137,
  a127 := Try.isAgg137,
  z127 := Try.sizeOf137,
  v127 := Try.zeroValue137,
  t146 := Try.underlying133,
  a146 := Try.isAgg133,
  z146 := Try.sizeOf133,
  v146 := Try.zeroValue133,
  t148 := Try.underlying135,
  a148 := Try.isAgg135,
  z148 := Try.sizeOf135,
  v148 := Try.zeroValue135,
  t164 := Try.underlying143,
  a164 := Try.isAgg143,
  z164 := Try.sizeOf143,
  v164 := Try.zeroValue143 }

theorem Try.extra105 : Builder.Extra Try.prog Try.lays105_ren := {
  sizeBuilder := by kernel_rfl,
  liesBuilder := by kernel_rfl,
  t5 := Try.underlying5,
  a5 := Try.isAgg5,
  z5 := Try.sizeOf5,
  v5 := Try.zeroValue5,
  infoByte := by kernel_rfl,
  cellsByte := by kernel_rfl,
  sizeByte := by kernel_rfl,
  neB5 := by decide }

namespace Gv
theorem strings_Repeat (s : ByteArray) (c : Nat) (w : World) (hc : c ≤ 9223372036854775807) (hlen : s.size * c ≤ 140737488355328) :
    Calls Try.prog 42 #[.string s, .int .i64 c] w fun e w' => e = .returned (.string ⟨(Lib.repeatL s.data.toList c).toArray⟩) ∧ Below w.heap.size w w' :=
  Any.strings_Repeat Try.lays105 Try.extra105 s c w hc hlen

end Gv
end Go.Proofs.Ytapicoienpbdfaa


namespace Go.Proofs.Ytapicoienpbdfaa.Gv
open Go.RowKit Go.Proofs.YtapicoienpbdfaaW.PrintWords
set_option linter.unusedVariables false

/-- The number of bits, the highest first. -/
def valOf (l : List Int) : Int := l.foldl (fun v b => v * 2 + b) 0
/-- All bits of a string. -/
def sBits (s : ByteArray) : List Int := (bytesOf s).flatMap fun b => bitsOf 8 b
def sumW (ws : List Int) : Int := ws.foldl (· + ·) 0
def okW (ws : List Int) : Bool := ws.all fun w => decide (1 ≤ w) && decide (w ≤ 64)
/-- The values of parts of such widths. -/
def vals : List Int → List Int → List Int
  | _, [] => []
  | bits, w :: ws => valOf (bits.take w.toNat) :: vals (bits.drop w.toNat) ws
/-- What Split comes to. -/
def split (s : ByteArray) (ws : List Int) : List Int × ByteArray × Int :=
  if okW ws = true then
    if sumW ws % 8 = 0 then
      if sumW ws / 8 > (s.size : Int) then ([], ⟨#[]⟩, 1) else (vals (sBits s) ws, s.extract (sumW ws / 8).toNat s.size, 0)
    else ([], ⟨#[]⟩, 3)
  else ([], ⟨#[]⟩, 4)

/-- From behind. -/
theorem rev_ind {P : List Int → Prop} (h0 : P []) (h1 : ∀ l b, P l → P (l ++ [b])) (l : List Int) : P l := by
  have key : ∀ n : Nat, ∀ l : List Int, l.length = n → P l := by
    intro n
    induction n with
    | zero => intro l hl; rw [List.eq_nil_of_length_eq_zero hl]; exact h0
    | succ n ih =>
      intro l hl
      have hne : l ≠ [] := fun e => by rw [e] at hl; simp at hl
      rw [← List.dropLast_concat_getLast hne]
      exact h1 _ _ (ih _ (by simp [hl]))
  exact key _ l rfl
theorem valOf_nil : valOf [] = 0 := rfl
theorem valOf_snoc (l : List Int) (b : Int) : valOf (l ++ [b]) = valOf l * 2 + b := by unfold valOf; rw [List.foldl_append]; rfl
theorem valOf_range {l : List Int} : IsBits l → 0 ≤ valOf l ∧ valOf l < 2 ^ l.length := by
  refine rev_ind (P := fun l => IsBits l → 0 ≤ valOf l ∧ valOf l < 2 ^ l.length) (fun _ => by simp [valOf]) (fun l b ih h => ?_) l
  have h1 := ih (fun x hx => h x (by simp [hx]))
  have h2 := h b (by simp)
  rw [valOf_snoc, List.length_append, List.length_singleton, Int.pow_succ]
  omega
theorem bitsOf_succ (n : Nat) (v : Int) : bitsOf (n + 1) v = bitsOf n (v / 2) ++ [v % 2] := by
  simp only [bitsOf]
  rw [List.range_succ, List.map_append]
  congr 1
  · apply List.map_congr_left
    intro i hi
    simp only [List.mem_range] at hi
    rw [show n + 1 - 1 - i = (n - 1 - i) + 1 from by omega, Int.pow_succ, Int.mul_comm, ← Int.ediv_ediv_of_nonneg (by decide)]
  · simp
theorem bitsOf_zero (v : Int) : bitsOf 0 v = [] := rfl
theorem bitsOf_add (m n : Nat) (v : Int) : bitsOf (m + n) v = bitsOf m (v / 2 ^ n) ++ bitsOf n v := by
  induction n generalizing v with
  | zero => simp [bitsOf_zero]
  | succ n ih =>
    rw [← Nat.add_assoc, bitsOf_succ, ih, bitsOf_succ n, List.append_assoc, Int.ediv_ediv_of_nonneg (by decide), Int.pow_succ, Int.mul_comm]
theorem valOf_bitsOf (n : Nat) (v : Int) : valOf (bitsOf n v) = v % 2 ^ n := by
  induction n generalizing v with
  | zero => simp [bitsOf_zero, valOf_nil]
  | succ n ih =>
    rw [bitsOf_succ, valOf_snoc, ih, Int.pow_succ]
    have hp : (0 : Int) < 2 ^ n := Int.pow_pos (by decide)
    generalize (2 : Int) ^ n = q at *
    have h3 : v / (q * 2) = v / 2 / q := by rw [Int.mul_comm, Int.ediv_ediv_of_nonneg (by decide)]
    rw [Int.emod_def v (q * 2), Int.emod_def (v / 2) q, h3, Int.mul_comm q 2, Int.mul_assoc 2 q]
    generalize q * (v / 2 / q) = z
    omega
/-- A number's bits and back: the bits of what bits tell. -/
theorem bitsOf_valOf {l : List Int} : IsBits l → bitsOf l.length (valOf l) = l := by
  refine rev_ind (P := fun l => IsBits l → bitsOf l.length (valOf l) = l) (fun _ => rfl) (fun l b ih h => ?_) l
  have h1 := ih (fun x hx => h x (by simp [hx]))
  have h2 := h b (by simp)
  rw [List.length_append, List.length_singleton, bitsOf_succ, valOf_snoc]
  have e1 : (valOf l * 2 + b) / 2 = valOf l := by omega
  have e2 : (valOf l * 2 + b) % 2 = b := by omega
  rw [e1, e2, h1]
/-- Only the low bits count. -/
theorem bitsOf_mod (n : Nat) (v : Int) : bitsOf n (v % 2 ^ n) = bitsOf n v := by
  have := bitsOf_valOf (bitsOf_bits n v)
  rwa [bitsOf_length, valOf_bitsOf] at this
theorem byteVal_bits (b : Int) (l : List Int) : byteVal (bitsOf 8 b ++ l) = b % 256 := by
  have h := valOf_bitsOf 8 b
  have e : (2 : Int) ^ 8 = 256 := by decide
  rw [e] at h
  rw [← h]
  simp only [bitsOf, byteVal, valOf, List.range, List.range.loop, List.map, List.foldl, List.cons_append, List.getD_cons_zero, List.getD_cons_succ]
  omega
theorem packB_byte (b : Int) (l : List Int) : packB (bitsOf 8 b ++ l) = b % 256 :: packB l := by
  have hl : (bitsOf 8 b ++ l).length = l.length + 8 := by rw [List.length_append, bitsOf_length]; omega
  unfold packB
  rw [hl, show (l.length + 8 + 7) / 8 = (l.length + 7) / 8 + 1 from by omega, List.range_succ_eq_map, List.map_cons, List.map_map]
  rw [Nat.mul_zero, List.drop_zero, byteVal_bits]
  refine congrArg (b % 256 :: ·) (List.map_congr_left fun j _ => ?_)
  show byteVal ((bitsOf 8 b ++ l).drop (8 * (j + 1))) = byteVal (l.drop (8 * j))
  rw [List.drop_append, bitsOf_length, List.drop_of_length_le (by rw [bitsOf_length]; omega), List.nil_append, show 8 * (j + 1) - 8 = 8 * j from by omega]
/-- Whole bytes: the bytes of a number's bits. -/
theorem packB_bytes (l : List Int) (hb : ∀ b ∈ l, 0 ≤ b ∧ b ≤ 255) (m : List Int) : packB ((l.flatMap fun b => bitsOf 8 b) ++ m) = l ++ packB m := by
  induction l with
  | nil => rfl
  | cons b l ih =>
    have h := hb b (by simp)
    rw [List.flatMap_cons, List.append_assoc, packB_byte, ih (fun x hx => hb x (by simp [hx]))]
    rw [List.cons_append, Int.emod_eq_of_lt h.1 (by omega)]
theorem sBits_length (s : ByteArray) : (sBits s).length = 8 * s.size := by
  unfold sBits
  have : ∀ l : List Int, (l.flatMap fun b => bitsOf 8 b).length = 8 * l.length := by
    intro l
    induction l with
    | nil => rfl
    | cons b l ih => rw [List.flatMap_cons, List.length_append, ih, bitsOf_length, List.length_cons]; omega
  rw [this, bytesOf_length]
theorem sBits_bits (s : ByteArray) : IsBits (sBits s) := by
  intro b hb
  simp only [sBits, List.mem_flatMap] at hb
  obtain ⟨p, _, hb⟩ := hb
  exact bitsOf_bits _ _ b hb
theorem strOfNums_bytesOf (s : ByteArray) : strOfNums (bytesOf s) = s := by
  unfold strOfNums bytesOf
  apply ByteArray.ext
  simp [Function.comp_def]
end Go.Proofs.Ytapicoienpbdfaa.Gv


namespace Go.Proofs.Ytapicoienpbdfaa.Gv
open Go.RowKit Go.Proofs.YtapicoienpbdfaaW.PrintWords
set_option linter.unusedVariables false

theorem bytesOf_inj {s t : ByteArray} (h : bytesOf s = bytesOf t) : s = t := by rw [← strOfNums_bytesOf s, ← strOfNums_bytesOf t, h]
theorem bytesOf_str (l : List Int) (h : ∀ b ∈ l, 0 ≤ b ∧ b ≤ 255) : bytesOf (strOfNums l) = l := by
  unfold bytesOf strOfNums
  simp only [List.map_map]
  have : ∀ b ∈ l, ((fun b : UInt8 => (b.toNat : Int)) ∘ fun n : Int => UInt8.ofNat n.toNat) b = id b := by
    intro b hb
    have := h b hb
    simp only [Function.comp, id]
    have e : (UInt8.ofNat b.toNat).toNat = b.toNat := by
      rw [UInt8.toNat_ofNat']
      omega
    rw [e]; omega
  rw [List.map_congr_left this, List.map_id]
theorem bytesOf_append (s t : ByteArray) : bytesOf (s ++ t) = bytesOf s ++ bytesOf t := by
  unfold bytesOf
  simp
theorem bytesOf_extract (s : ByteArray) (a b : Nat) : bytesOf (s.extract a b) = ((bytesOf s).take b).drop a := by
  unfold bytesOf
  rw [← List.map_take, ← List.map_drop]
  congr 1
  simp [ByteArray.extract, ByteArray.copySlice, List.drop_take]
theorem bt_get (s : ByteArray) (i : Int) : bt s i = (bytesOf s).getD i.toNat 0 := (rd_bytesOf s i).symm
/-- A string's first bytes by name. -/
theorem bytesOf_head (s : ByteArray) (m : Nat) (h : m ≤ s.size) : bytesOf s = ((List.range m).map fun i => bt s (i : Nat)) ++ (bytesOf s).drop m := by
  have e : (List.range m).map (fun i => bt s ((i : Nat) : Int)) = (bytesOf s).take m := by
    apply List.ext_getElem
    · simp [bytesOf_length]; omega
    · intro i h1 h2
      have hi : i < (bytesOf s).length := by rw [bytesOf_length]; simp at h1; omega
      simp only [List.getElem_map, List.getElem_range, List.getElem_take]
      rw [bt_get, Int.toNat_natCast, List.getD_eq_getElem?_getD, List.getElem?_eq_getElem hi]
      rfl
  rw [e, List.take_append_drop]
theorem sBits_cons {s : ByteArray} {l : List Int} (h : bytesOf s = l) : sBits s = l.flatMap fun b => bitsOf 8 b := by unfold sBits; rw [h]
theorem flat_cons (b : Int) (l : List Int) : ((b :: l).flatMap fun b => bitsOf 8 b) = bitsOf 8 b ++ l.flatMap fun b => bitsOf 8 b := rfl
theorem vals_cons (w : Nat) (v : Int) (rest : List Int) (ws : List Int) : vals (bitsOf w v ++ rest) ((w : Int) :: ws) = v % 2 ^ w :: vals rest ws := by
  simp only [vals, Int.toNat_natCast]
  rw [List.take_append_of_le_length (by rw [bitsOf_length]; exact Nat.le_refl _), List.take_of_length_le (by rw [bitsOf_length]; exact Nat.le_refl _), valOf_bitsOf, List.drop_append_of_le_length (by rw [bitsOf_length]; exact Nat.le_refl _), List.drop_of_length_le (by rw [bitsOf_length]; exact Nat.le_refl _), List.nil_append]
theorem vals_none (l : List Int) : vals l [] = [] := rfl
/-- Two numbers behind each other. -/
theorem bitsOf_join (m n : Nat) (a b : Int) (h0 : 0 ≤ b) (h1 : b < 2 ^ n) : bitsOf m a ++ bitsOf n b = bitsOf (m + n) (a * 2 ^ n + b) := by
  have hp : (0 : Int) < 2 ^ n := Int.pow_pos (by decide)
  rw [bitsOf_add]
  have e1 : (a * 2 ^ n + b) / 2 ^ n = a := by
    rw [Int.add_comm, Int.add_mul_ediv_right _ _ (Int.ne_of_gt hp), Int.ediv_eq_zero_of_lt h0 h1]; omega
  have e2 : bitsOf n (a * 2 ^ n + b) = bitsOf n b := by
    rw [← bitsOf_mod n (a * 2 ^ n + b), Int.add_comm, Int.add_mul_emod_self_right, bitsOf_mod]
  rw [e1, e2]
theorem packB_last (b : Int) : packB (bitsOf 8 b) = [b % 256] := by
  have := packB_byte b []
  rwa [List.append_nil] at this
theorem strOfNums_append (l m : List Int) : strOfNums (l ++ m) = strOfNums l ++ strOfNums m := by
  unfold strOfNums
  apply ByteArray.ext
  simp
theorem size_bytesOf (s : ByteArray) : s.size = (bytesOf s).length := (bytesOf_length s).symm

end Go.Proofs.Ytapicoienpbdfaa.Gv


namespace Go.Proofs.Ytapicoienpbdfaa.Gv
open Go.RowKit Go.Proofs.YtapicoienpbdfaaW.PrintWords
set_option linter.unusedVariables false

theorem packB_flat (n : Nat) : ∀ bits : List Int, IsBits bits → bits.length = 8 * n → ((packB bits).flatMap fun b => bitsOf 8 b) = bits := by
  induction n with
  | zero =>
    intro bits h hl
    have e : bits = [] := List.eq_nil_of_length_eq_zero (by omega)
    rw [e]; rfl
  | succ n ih =>
    intro bits h hl
    have h8 : bitsOf 8 (valOf (bits.take 8)) = bits.take 8 := by
      have := bitsOf_valOf (l := bits.take 8) (fun b hb => h b (List.mem_of_mem_take hb))
      rwa [List.length_take, show min 8 bits.length = 8 from by omega] at this
    have e : bits = bitsOf 8 (valOf (bits.take 8)) ++ bits.drop 8 := by rw [h8]; exact (List.take_append_drop 8 bits).symm
    have hd := ih (bits.drop 8) (h.drop 8) (by rw [List.length_drop]; omega)
    generalize valOf (bits.take 8) = v at e
    generalize bits.drop 8 = m at e hd
    subst e
    have e2 := bitsOf_mod 8 v
    rw [show (2 : Int) ^ 8 = 256 from by decide] at e2
    rw [packB_byte, List.flatMap_cons, hd, e2]
/-- Whole bytes ahead: their bytes come first. -/
theorem packB_whole (n : Nat) : ∀ bits m : List Int, IsBits bits → bits.length = 8 * n → packB (bits ++ m) = packB bits ++ packB m := by
  intro bits m h hl
  have hr := packB_flat n bits h hl
  have h2 := packB_bytes (packB bits) (packB_range h) m
  rwa [hr] at h2
end Go.Proofs.Ytapicoienpbdfaa.Gv


namespace Go.Proofs.Ytapicoienpbdfaa.Gv
open Go.RowKit Go.Proofs.YtapicoienpbdfaaW.PrintWords
set_option linter.unusedVariables false

theorem pack_two (n : Int) (h0 : 0 ≤ n) (h1 : n ≤ 65535) : pack [(16, n)] = some (strOfNums (packB (bitsOf 16 n)), 0) := by
  have p16 : (2 : Int) ^ (16 : Int).toNat = 65536 := by decide
  have hu : isU64 [((16 : Int), n)] = true := by
    simp only [isU64, List.all_cons, List.all_nil, Bool.and_true, Bool.and_eq_true, decide_eq_true_eq]; unfold u64max; omega
  have hok : [((16 : Int), n)].all okPart = true := by
    simp only [List.all_cons, List.all_nil, okPart, p16, Bool.and_true, Bool.and_eq_true, Bool.or_eq_true, decide_eq_true_eq]
    exact ⟨by omega, .inr (by omega)⟩
  have hbits : allBits [((16 : Int), n)] = bitsOf 16 n := by
    simp only [allBits, List.flatMap_cons, List.flatMap_nil, List.append_nil]; rfl
  unfold pack
  rw [if_pos ⟨hu, by simp⟩, if_pos hok, hbits, if_pos (by rw [bitsOf_length])]
  rfl
theorem pack_six (n : Int) (h0 : 0 ≤ n) (h1 : n < 281474976710656) : pack [(48, n)] = some (strOfNums (packB (bitsOf 48 n)), 0) := by
  have p48 : (2 : Int) ^ (48 : Int).toNat = 281474976710656 := by decide
  have hu : isU64 [((48 : Int), n)] = true := by
    simp only [isU64, List.all_cons, List.all_nil, Bool.and_true, Bool.and_eq_true, decide_eq_true_eq]; unfold u64max; omega
  have hok : [((48 : Int), n)].all okPart = true := by
    simp only [List.all_cons, List.all_nil, okPart, p48, Bool.and_true, Bool.and_eq_true, Bool.or_eq_true, decide_eq_true_eq]
    exact ⟨by omega, .inr (by omega)⟩
  have hbits : allBits [((48 : Int), n)] = bitsOf 48 n := by
    simp only [allBits, List.flatMap_cons, List.flatMap_nil, List.append_nil]; rfl
  unfold pack
  rw [if_pos ⟨hu, by simp⟩, if_pos hok, hbits, if_pos (by rw [bitsOf_length])]
  rfl

end Go.Proofs.Ytapicoienpbdfaa.Gv


namespace Go.Proofs.Ytapicoienpbdfaa.Gv
open Go.RowKit Go.Proofs.YtapicoienpbdfaaW.PrintWords
set_option linter.unusedVariables false

/-- The number of n bytes from place a on. -/
def numOf (s : ByteArray) (a n : Nat) : Int := valOf (((sBits s).drop (8 * a)).take (8 * n))
theorem flat_drop (n : Nat) : ∀ l : List Int, (l.flatMap fun b => bitsOf 8 b).drop (8 * n) = (l.drop n).flatMap fun b => bitsOf 8 b := by
  induction n with
  | zero => intro l; simp
  | succ n ih =>
    intro l
    cases l with
    | nil => simp
    | cons b l =>
      rw [List.flatMap_cons, List.drop_succ_cons, List.drop_append, bitsOf_length, List.drop_of_length_le (by rw [bitsOf_length]; omega), List.nil_append, show 8 * (n + 1) - 8 = 8 * n from by omega, ih]
theorem sBits_extract (s : ByteArray) (a : Nat) : sBits (s.extract a s.size) = (sBits s).drop (8 * a) := by
  unfold sBits
  rw [flat_drop, bytesOf_extract, List.take_of_length_le (by rw [bytesOf_length]; exact Nat.le_refl _)]
theorem num_bits (s : ByteArray) (a n : Nat) : IsBits (((sBits s).drop (8 * a)).take (8 * n)) := fun b hb => sBits_bits s b (List.mem_of_mem_drop (List.mem_of_mem_take hb))
theorem num_len (s : ByteArray) (a n : Nat) (h : a + n ≤ s.size) : (((sBits s).drop (8 * a)).take (8 * n)).length = 8 * n := by
  rw [List.length_take, List.length_drop, sBits_length]; omega
theorem numOf_range (s : ByteArray) (a n : Nat) (h : a + n ≤ s.size) : 0 ≤ numOf s a n ∧ numOf s a n < 2 ^ (8 * n) := by
  have := valOf_range (num_bits s a n)
  rwa [num_len s a n h] at this
theorem num_back (s : ByteArray) (a n : Nat) (h : a + n ≤ s.size) : bitsOf (8 * n) (numOf s a n) = ((sBits s).drop (8 * a)).take (8 * n) := by
  have := bitsOf_valOf (num_bits s a n)
  rwa [num_len s a n h] at this
theorem num_cut (s : ByteArray) (a n : Nat) (h : a + n ≤ s.size) : (sBits s).drop (8 * a) = bitsOf (8 * n) (numOf s a n) ++ (sBits s).drop (8 * (a + n)) := by
  rw [num_back s a n h, show 8 * (a + n) = 8 * a + 8 * n from by omega, ← List.drop_drop, List.take_append_drop]
theorem split_one (s : ByteArray) (n : Nat) (h1 : 1 ≤ n) (h8 : n ≤ 8) (h : n ≤ s.size) : split s [((8 * n : Nat) : Int)] = ([valOf ((sBits s).take (8 * n))], s.extract n s.size, 0) := by
  have e1 : okW [((8 * n : Nat) : Int)] = true := by simp [okW]; omega
  have e2 : sumW [((8 * n : Nat) : Int)] = ((8 * n : Nat) : Int) := by simp [sumW]
  have e3 : vals (sBits s) [((8 * n : Nat) : Int)] = [valOf ((sBits s).take (8 * n))] := rfl
  unfold split
  rw [if_pos e1, e2, if_pos (by omega), if_neg (by omega), e3, show (((8 * n : Nat) : Int) / 8).toNat = n from by omega]

/-! ### a tagged frame -/
end Go.Proofs.Ytapicoienpbdfaa.Gv


namespace Go.Proofs.Ytapicoienpbdfaa.Gv
open Go.RowKit Go.Proofs.YtapicoienpbdfaaW.PrintWords
set_option linter.unusedVariables false

def bi (b : Bool) : Int := if b = true then 1 else 0
theorem bi_range (b : Bool) : 0 ≤ bi b ∧ bi b ≤ 1 := by cases b <;> decide
end Go.Proofs.Ytapicoienpbdfaa.Gv


namespace Go.Proofs.Ytapicoienpbdfaa.Gv
open Go.RowKit Go.Proofs.YtapicoienpbdfaaW.PrintWords
set_option linter.unusedVariables false

/-- Are the first i bytes 0? -/
def allz (s : ByteArray) : Nat → Bool
  | 0 => true
  | i + 1 => allz s i && (bt s i == 0)
theorem allz_false (s : ByteArray) (i : Nat) (h : allz s i = false) (d : Nat) : allz s (i + d) = false := by
  induction d with
  | zero => exact h
  | succ d ih => show (allz s (i + d) && _) = false; rw [ih]; rfl
theorem allz_all (s : ByteArray) (i : Nat) : allz s i = true ↔ ∀ j : Nat, j < i → bt s (j : Int) = 0 := by
  induction i with
  | zero => simp [allz]
  | succ i ih =>
    show (allz s i && (bt s i == 0)) = true ↔ _
    rw [Bool.and_eq_true, ih, beq_iff_eq]
    constructor
    · intro h j hj
      by_cases e : j = i
      · rw [e]; exact h.2
      · exact h.1 j (by omega)
    · intro h
      exact ⟨fun j hj => h j (by omega), h i (by omega)⟩
theorem allz_str (s : ByteArray) : allz s s.size = true ↔ s = strOfNums (List.replicate s.size 0) := by
  rw [allz_all]
  have hr : ∀ b ∈ List.replicate s.size (0 : Int), 0 ≤ b ∧ b ≤ 255 := by
    intro b hb
    have := (List.mem_replicate.1 hb).2
    omega
  constructor
  · intro h
    apply bytesOf_inj
    rw [bytesOf_str _ hr]
    rw [List.eq_replicate_iff]
    refine ⟨bytesOf_length s, fun b hb => ?_⟩
    obtain ⟨i, hi, rfl⟩ := List.getElem_of_mem hb
    have := h i (by rw [← bytesOf_length]; exact hi)
    rw [bt_get, Int.toNat_natCast, List.getD_eq_getElem?_getD, List.getElem?_eq_getElem hi] at this
    exact this
  · intro h j hj
    have e : bytesOf s = List.replicate s.size 0 := by
      have := congrArg bytesOf h
      rwa [bytesOf_str _ hr] at this
    rw [bt_get, e, Int.toNat_natCast, List.getD_eq_getElem?_getD, List.getElem?_replicate, if_pos hj]
    rfl
theorem str_list {s t : ByteArray} : s.toList = t.toList ↔ s = t := by
  rw [ByteArray.toList_eq, ByteArray.toList_eq]
  constructor
  · intro h
    exact ByteArray.ext (Array.toList_inj.1 h)
  · intro h; rw [h]

end Go.Proofs.Ytapicoienpbdfaa.Gv


namespace Go.Proofs.Ytapicoienpbdfaa.Gv
open Go.RowKit Go.Proofs.YtapicoienpbdfaaW.PrintWords
set_option linter.unusedVariables false

/-- What is wrong with a message. -/
def ccmWrong (p e : Int) (n : Nat) : Int := if 1 ≤ p ∧ p ≤ 7 ∧ 1 ≤ e ∧ e ≤ 8191 then (if n = 48 then 0 else 3) else 4
def ccmBody (c e : Int) (g : ByteArray) : ByteArray := (strOfNums (packB (bitsOf 32 c) ++ packB (bitsOf 16 e)) ++ g) ++ strOfNums (List.replicate 16 0)
theorem ccmHead_size (c e : Int) : (strOfNums (packB (bitsOf 32 c) ++ packB (bitsOf 16 e))).size = 6 := by
  rw [strOfNums_size, List.length_append, packB_length, packB_length, bitsOf_length, bitsOf_length]
theorem ccmBody_size (c e : Int) (g : ByteArray) : (ccmBody c e g).size = 22 + g.size := by
  unfold ccmBody
  rw [ByteArray.size_append, ByteArray.size_append, ccmHead_size, strOfNums_size, List.length_replicate]
  omega
theorem pack_ccm (c e : Int) (hc0 : 0 ≤ c) (hc1 : c ≤ 4294967295) (he0 : 0 ≤ e) (he1 : e ≤ 65535) : pack [(32, c), (16, e)] = some (strOfNums (packB (bitsOf 32 c) ++ packB (bitsOf 16 e)), 0) := by
  have p32 : (2 : Int) ^ (32 : Int).toNat = 4294967296 := by decide
  have p16 : (2 : Int) ^ (16 : Int).toNat = 65536 := by decide
  have hu : isU64 [((32 : Int), c), (16, e)] = true := by
    simp only [isU64, List.all_cons, List.all_nil, Bool.and_true, Bool.and_eq_true, decide_eq_true_eq]; unfold u64max; omega
  have hok : [((32 : Int), c), (16, e)].all okPart = true := by
    simp only [List.all_cons, List.all_nil, okPart, p32, p16, Bool.and_true, Bool.and_eq_true, Bool.or_eq_true, decide_eq_true_eq]
    exact ⟨⟨by omega, .inr (by omega)⟩, ⟨by omega, .inr (by omega)⟩⟩
  have hbits : allBits [((32 : Int), c), (16, e)] = bitsOf 32 c ++ bitsOf 16 e := by
    simp only [allBits, List.flatMap_cons, List.flatMap_nil, List.append_nil]; rfl
  unfold pack
  rw [if_pos ⟨hu, by simp⟩, if_pos hok, hbits, if_pos (by rw [List.length_append, bitsOf_length, bitsOf_length]), packB_whole 4 _ _ (bitsOf_bits _ _) (bitsOf_length _ _)]
  rfl
theorem pack_four (n : Int) (h0 : 0 ≤ n) (h1 : n ≤ 4294967295) : pack [(32, n)] = some (strOfNums (packB (bitsOf 32 n)), 0) := by
  have p32 : (2 : Int) ^ (32 : Int).toNat = 4294967296 := by decide
  have hu : isU64 [((32 : Int), n)] = true := by
    simp only [isU64, List.all_cons, List.all_nil, Bool.and_true, Bool.and_eq_true, decide_eq_true_eq]; unfold u64max; omega
  have hok : [((32 : Int), n)].all okPart = true := by
    simp only [List.all_cons, List.all_nil, okPart, p32, Bool.and_true, Bool.and_eq_true, Bool.or_eq_true, decide_eq_true_eq]
    exact ⟨by omega, .inr (by omega)⟩
  have hbits : allBits [((32 : Int), n)] = bitsOf 32 n := by
    simp only [allBits, List.flatMap_cons, List.flatMap_nil, List.append_nil]; rfl
  unfold pack
  rw [if_pos ⟨hu, by simp⟩, if_pos hok, hbits, if_pos (by rw [bitsOf_length])]
  rfl
theorem split_ccm (c : ByteArray) (h : 6 ≤ c.size) : split c [32, 3, 13] = ([numOf c 0 4, numOf c 4 2 / 8192, numOf c 4 2 % 8192], c.extract 6 c.size, 0) := by
  have e1 : okW [32, 3, 13] = true := by decide
  have e2 : sumW [32, 3, 13] = 48 := by decide
  unfold split
  rw [if_pos e1, e2, if_pos (by decide), if_neg (by omega)]
  have r0 := numOf_range c 0 4 (by omega); have r1 := numOf_range c 4 2 (by omega)
  have c0 := num_cut c 0 4 (by omega); have c1 := num_cut c 4 2 (by omega)
  have p32 : (2 : Int) ^ (8 * 4) = 4294967296 := by decide
  have p16 : (2 : Int) ^ (8 * 2) = 65536 := by decide
  rw [p32] at r0
  rw [p16] at r1
  rw [Nat.mul_zero, List.drop_zero] at c0
  have d1 : bitsOf (8 * 2) (numOf c 4 2) = bitsOf 3 (numOf c 4 2 / 8192) ++ bitsOf 13 (numOf c 4 2) := by
    have a1 := bitsOf_add 3 13 (numOf c 4 2)
    rwa [show (2 : Int) ^ 13 = 8192 from by decide] at a1
  have e4 : vals (sBits c) [32, 3, 13] = [numOf c 0 4, numOf c 4 2 / 8192, numOf c 4 2 % 8192] := by
    rw [c0, c1, d1]
    simp only [List.append_assoc]
    rw [show ([32, 3, 13] : List Int) = ((8 * 4 : Nat) : Int) :: ((3 : Nat) : Int) :: ((13 : Nat) : Int) :: [] from rfl]
    rw [vals_cons, vals_cons, vals_cons, vals_none, p32]
    rw [show (2 : Int) ^ 3 = 8 from by decide, show (2 : Int) ^ 13 = 8192 from by decide]
    rw [Int.emod_eq_of_lt r0.1 r0.2, Int.emod_eq_of_lt (a := numOf c 4 2 / 8192) (by omega) (by omega)]
  rw [e4]
  rfl
/-- Nothing, and what is wrong. -/
def ccmNone (e : Int) : Bool × Int × Int × Int × ByteArray × Int := (false, 0, 0, 0, ⟨#[]⟩, e)
/-- A message's content, read. -/
def ccmRead (f : Int) (c : ByteArray) : Bool × Int × Int × Int × ByteArray × Int :=
  if numOf c 4 2 < 8192 ∧ f / 8 % 16 = 0 ∧ c.extract 54 c.size = strOfNums (List.replicate 16 0) then
    (if f % 8 ≠ 0 ∧ numOf c 4 2 ≠ 0 then (f / 128 == 1, f % 8, numOf c 0 4, numOf c 4 2, c.extract 6 54, 0) else ccmNone 4)
  else ccmNone 3
end Go.Proofs.Ytapicoienpbdfaa.Gv


namespace Go.Proofs.Ytapicoienpbdfaa.Gv
open Go.RowKit Go.Proofs.YtapicoienpbdfaaW.PrintWords Go.ChangeShapes Go.WideShapes Go.Deep
set_option linter.unusedVariables false
theorem list_cons {α : Type} {l : List α} {n : Nat} (h : l.length = n + 1) : ∃ a m, l = a :: m ∧ m.length = n := by
  cases l with
  | nil => simp at h
  | cons a m => exact ⟨a, m, rfl, by simpa using h⟩
section
variable {H : Type} {enc : TypeId × Value → H} {P : Program} {w : World} {base : Nat} {spare : Nat → Bool} {held : Bool}

theorem open_slice_kd {α : Type} {d : Kd α} (good : α → Prop) {t e : TypeId} {fuel : Nat} {a : Option Addr} {len cap : Nat} {x : DataW H × List MemPlace} (ht : P.underlying t = some (.slice e)) (hC : P.cellsOf e = d.sz)
    (hop : ∀ {n : Nat} {cs : List Value} {y : DataW H × List MemPlace}, DataW.trod enc P w base spare held n e cs = some y → ∃ s, d.K w s cs ∧ good s)
    (h : DataW.trod enc P w base spare held fuel t [.slice a len cap] = some x) :
    ∃ l : List α, l.length = len ∧ len ≤ cap ∧ len ≤ maxLen ∧ Kd.C d w a len l ∧ (∀ s ∈ l, good s) ∧ ((len = 0) ∨ ∃ es sp, x.1 = .slice es sp ∧ len ≤ es.length) := by
  rcases open_slice ht h with ⟨hcs, _⟩ | ⟨a', len', cap', m, n, D, Pl, hcs, hb, hl, hm, hmm, hx, hi⟩
  · simp only [List.cons.injEq, Value.slice.injEq, and_true] at hcs
    obtain ⟨rfl, rfl, rfl⟩ := hcs
    exact ⟨[], rfl, Nat.le_refl _, Nat.zero_le _, ⟨rfl, Nat.zero_le _, fun h => by omega⟩, fun s hs => by simp at hs, .inl rfl⟩
  · simp only [List.cons.injEq, Value.slice.injEq, and_true] at hcs
    obtain ⟨rfl, rfl, rfl⟩ := hcs
    by_cases hz : len = 0
    · subst hz
      exact ⟨[], rfl, Nat.zero_le _, Nat.zero_le _, ⟨rfl, Nat.zero_le _, fun h => by omega⟩, fun s hs => by simp at hs, .inl rfl⟩
    have hlm : len ≤ m := by rw [hmm]; split <;> omega
    have hel : ∀ i : Nat, i < len → ∃ s : α, good s ∧ ∃ c, c.length = d.sz ∧ d.K w s c ∧ ∀ j u, c[j]? = some u → w.cell? (a'.add (i * d.sz + j)) = some u := by
      intro i hi'
      obtain ⟨cs', hc, htr⟩ := hi i (by omega)
      obtain ⟨s, hK, hg⟩ := hop htr
      rw [hC] at hc
      obtain ⟨_, hcl, hat⟩ := World.cells?_some hc
      refine ⟨s, hg, cs', hcl, hK, fun j u hu => ?_⟩
      have hj : j < d.sz := by rw [← hcl]; exact (List.getElem?_eq_some_iff.1 hu).1
      rw [← Go.Deep.add_add, hat j hj, hu]
    have hch : ∃ f : Nat → α, ∀ i, i < len → good (f i) ∧ ∃ c, c.length = d.sz ∧ d.K w (f i) c ∧ ∀ j u, c[j]? = some u → w.cell? (a'.add (i * d.sz + j)) = some u := by
      obtain ⟨s0, _⟩ := hel 0 (by omega)
      refine ⟨fun i => if hi : i < len then Classical.choose (hel i hi) else s0, fun i hi => ?_⟩
      simp only [dif_pos hi]
      exact Classical.choose_spec (hel i hi)
    obtain ⟨f, hf⟩ := hch
    refine ⟨(List.range len).map f, by simp, hl, by omega, ⟨by simp, by unfold maxLen at hm; omega, fun _ => ⟨a', rfl, fun j p hp => ?_⟩⟩, ?_, .inr ⟨_, _, by rw [hx], by simp⟩⟩
    · simp only [List.getElem?_map, Option.map_eq_some_iff] at hp
      obtain ⟨i, hi', rfl⟩ := hp
      have hj : j < len := by
        have := (List.getElem?_eq_some_iff.1 hi').1
        simpa using this
      rw [List.getElem?_range hj] at hi'
      obtain rfl := Option.some.inj hi'
      exact (hf j hj).2
    · intro s hs
      simp only [List.mem_map, List.mem_range] at hs
      obtain ⟨i, hi', rfl⟩ := hs
      exact (hf i hi').1

/-- A slice is no longer than its weight allows. -/
theorem sized_slice_kd {t e : TypeId} {len : Nat} {d : DataW H} {ts : List TypeId} {ds : List (DataW H)} {j : Nat}
    (hsz : (DataW.weightsEach P ts ds).all (· ≤ reachBytes) = true) (ht : ts[j]? = some t) (hd : ds[j]? = some d) (hu : P.underlying t = some (.slice e)) {B : Nat} (hB : P.bytesOf e = B)
    (h : (len = 0) ∨ ∃ es sp, d = .slice es sp ∧ len ≤ es.length) : len * B ≤ 140737488351232 := by
  rcases h with rfl | ⟨es, sp, rfl, hl⟩
  · simp
  · have z := sized_slice hsz ht hd hu
    rw [hB] at z
    have : len * B ≤ (es.length + sp.length) * B := Nat.mul_le_mul_right _ (by omega)
    exact Nat.le_trans this z
end
end Go.Proofs.Ytapicoienpbdfaa.Gv

