/- The law MacBack holds: an address's bytes and text tell it; texts that are read are written as they were: for every input. -/
import Derived.Test.YtmdaaphjndjakafPAllx4
import Derived.Test.YtmdaaphjndjakafGvField
import Derived.Test.YtmdaaphjndjakafWMore
import Derived.Test.YtmdaaphjndjakafPAllx14
import Derived.Test.YtmdaaphjndjakafPAllx3
import Derived.Lib.Join
import Derived.Test.YtmdaaphjndjakafPAllx12
import Derived.Test.YtmdaaphjndjakafPAllx15
-- merged out of the texts of this work that it leads to

/- Plain words on bits: the values of parts of a string's bits; how bits of numbers fall apart and go together. No program in sight. -/
namespace Go.Proofs.Ytmdaaphjndjakaf.Gv
open Go.RowKit Go.Proofs.YtmdaaphjndjakafW.PrintWords
set_option linter.unusedVariables false

/-- The number of bits, the highest first. -/
def valOf (l : List Int) : Int := l.foldl (fun v b => v * 2 + b) 0
/-- All bits of a string. -/
def sBits (s : ByteArray) : List Int := (bytesOf s).flatMap fun b => bitsOf 8 b
def sumW (ws : List Int) : Int := ws.foldl (· + ·) 0
def okW (ws : List Int) : Bool := ws.all fun w => decide (1 ≤ w) && decide (w ≤ 64)
/-- The values of parts of such widths. -/
def vals : List Int → List Int → List Int
  | _, [] => []
  | bits, w :: ws => valOf (bits.take w.toNat) :: vals (bits.drop w.toNat) ws
/-- What Split comes to. -/
def split (s : ByteArray) (ws : List Int) : List Int × ByteArray × Int :=
  if okW ws = true then
    if sumW ws % 8 = 0 then
      if sumW ws / 8 > (s.size : Int) then ([], ⟨#[]⟩, 1) else (vals (sBits s) ws, s.extract (sumW ws / 8).toNat s.size, 0)
    else ([], ⟨#[]⟩, 3)
  else ([], ⟨#[]⟩, 4)

theorem foldl_val (l : List Int) (a : Int) : l.foldl (fun v b => v * 2 + b) a = a * 2 ^ l.length + valOf l := by
  induction l generalizing a with
  | nil => simp [valOf]
  | cons b l ih =>
    have e : valOf (b :: l) = b * 2 ^ l.length + valOf l := by
      show l.foldl (fun v b => v * 2 + b) (0 * 2 + b) = _
      rw [ih]; simp
    rw [List.foldl_cons, ih, e, List.length_cons, Int.pow_succ, Int.add_mul, Int.mul_assoc, Int.mul_comm 2 (2 ^ l.length), Int.add_assoc]
/-- From behind. -/
theorem rev_ind {P : List Int → Prop} (h0 : P []) (h1 : ∀ l b, P l → P (l ++ [b])) (l : List Int) : P l := by
  have key : ∀ n : Nat, ∀ l : List Int, l.length = n → P l := by
    intro n
    induction n with
    | zero => intro l hl; rw [List.eq_nil_of_length_eq_zero hl]; exact h0
    | succ n ih =>
      intro l hl
      have hne : l ≠ [] := fun e => by rw [e] at hl; simp at hl
      rw [← List.dropLast_concat_getLast hne]
      exact h1 _ _ (ih _ (by simp [hl]))
  exact key _ l rfl
theorem valOf_nil : valOf [] = 0 := rfl
theorem valOf_append (l m : List Int) : valOf (l ++ m) = valOf l * 2 ^ m.length + valOf m := by
  unfold valOf
  rw [List.foldl_append, foldl_val]
  rfl
theorem valOf_snoc (l : List Int) (b : Int) : valOf (l ++ [b]) = valOf l * 2 + b := by unfold valOf; rw [List.foldl_append]; rfl
theorem valOf_range {l : List Int} : IsBits l → 0 ≤ valOf l ∧ valOf l < 2 ^ l.length := by
  refine rev_ind (P := fun l => IsBits l → 0 ≤ valOf l ∧ valOf l < 2 ^ l.length) (fun _ => by simp [valOf]) (fun l b ih h => ?_) l
  have h1 := ih (fun x hx => h x (by simp [hx]))
  have h2 := h b (by simp)
  rw [valOf_snoc, List.length_append, List.length_singleton, Int.pow_succ]
  omega
theorem bitsOf_succ (n : Nat) (v : Int) : bitsOf (n + 1) v = bitsOf n (v / 2) ++ [v % 2] := by
  simp only [bitsOf]
  rw [List.range_succ, List.map_append]
  congr 1
  · apply List.map_congr_left
    intro i hi
    simp only [List.mem_range] at hi
    rw [show n + 1 - 1 - i = (n - 1 - i) + 1 from by omega, Int.pow_succ, Int.mul_comm, ← Int.ediv_ediv_of_nonneg (by decide)]
  · simp
theorem bitsOf_zero (v : Int) : bitsOf 0 v = [] := rfl
theorem bitsOf_add (m n : Nat) (v : Int) : bitsOf (m + n) v = bitsOf m (v / 2 ^ n) ++ bitsOf n v := by
  induction n generalizing v with
  | zero => simp [bitsOf_zero]
  | succ n ih =>
    rw [← Nat.add_assoc, bitsOf_succ, ih, bitsOf_succ n, List.append_assoc, Int.ediv_ediv_of_nonneg (by decide), Int.pow_succ, Int.mul_comm]
theorem valOf_bitsOf (n : Nat) (v : Int) : valOf (bitsOf n v) = v % 2 ^ n := by
  induction n generalizing v with
  | zero => simp [bitsOf_zero, valOf_nil]
  | succ n ih =>
    rw [bitsOf_succ, valOf_snoc, ih, Int.pow_succ]
    have hp : (0 : Int) < 2 ^ n := Int.pow_pos (by decide)
    generalize (2 : Int) ^ n = q at *
    have h3 : v / (q * 2) = v / 2 / q := by rw [Int.mul_comm, Int.ediv_ediv_of_nonneg (by decide)]
    rw [Int.emod_def v (q * 2), Int.emod_def (v / 2) q, h3, Int.mul_comm q 2, Int.mul_assoc 2 q]
    generalize q * (v / 2 / q) = z
    omega
/-- A number's bits and back: the bits of what bits tell. -/
theorem bitsOf_valOf {l : List Int} : IsBits l → bitsOf l.length (valOf l) = l := by
  refine rev_ind (P := fun l => IsBits l → bitsOf l.length (valOf l) = l) (fun _ => rfl) (fun l b ih h => ?_) l
  have h1 := ih (fun x hx => h x (by simp [hx]))
  have h2 := h b (by simp)
  rw [List.length_append, List.length_singleton, bitsOf_succ, valOf_snoc]
  have e1 : (valOf l * 2 + b) / 2 = valOf l := by omega
  have e2 : (valOf l * 2 + b) % 2 = b := by omega
  rw [e1, e2, h1]
/-- Only the low bits count. -/
theorem bitsOf_mod (n : Nat) (v : Int) : bitsOf n (v % 2 ^ n) = bitsOf n v := by
  have := bitsOf_valOf (bitsOf_bits n v)
  rwa [bitsOf_length, valOf_bitsOf] at this
theorem byteVal_bits (b : Int) (l : List Int) : byteVal (bitsOf 8 b ++ l) = b % 256 := by
  have h := valOf_bitsOf 8 b
  have e : (2 : Int) ^ 8 = 256 := by decide
  rw [e] at h
  rw [← h]
  simp only [bitsOf, byteVal, valOf, List.range, List.range.loop, List.map, List.foldl, List.cons_append, List.getD_cons_zero, List.getD_cons_succ]
  omega
theorem packB_nil : packB [] = [] := rfl
theorem packB_byte (b : Int) (l : List Int) : packB (bitsOf 8 b ++ l) = b % 256 :: packB l := by
  have hl : (bitsOf 8 b ++ l).length = l.length + 8 := by rw [List.length_append, bitsOf_length]; omega
  unfold packB
  rw [hl, show (l.length + 8 + 7) / 8 = (l.length + 7) / 8 + 1 from by omega, List.range_succ_eq_map, List.map_cons, List.map_map]
  rw [Nat.mul_zero, List.drop_zero, byteVal_bits]
  refine congrArg (b % 256 :: ·) (List.map_congr_left fun j _ => ?_)
  show byteVal ((bitsOf 8 b ++ l).drop (8 * (j + 1))) = byteVal (l.drop (8 * j))
  rw [List.drop_append, bitsOf_length, List.drop_of_length_le (by rw [bitsOf_length]; omega), List.nil_append, show 8 * (j + 1) - 8 = 8 * j from by omega]
/-- Whole bytes: the bytes of a number's bits. -/
theorem packB_bytes (l : List Int) (hb : ∀ b ∈ l, 0 ≤ b ∧ b ≤ 255) (m : List Int) : packB ((l.flatMap fun b => bitsOf 8 b) ++ m) = l ++ packB m := by
  induction l with
  | nil => rfl
  | cons b l ih =>
    have h := hb b (by simp)
    rw [List.flatMap_cons, List.append_assoc, packB_byte, ih (fun x hx => hb x (by simp [hx]))]
    rw [List.cons_append, Int.emod_eq_of_lt h.1 (by omega)]
theorem bytesOf_range (s : ByteArray) : ∀ b ∈ bytesOf s, 0 ≤ b ∧ b ≤ 255 := by
  intro b hb
  simp only [bytesOf, List.mem_map] at hb
  obtain ⟨u, _, rfl⟩ := hb
  have := u.toNat_lt
  omega
theorem sBits_length (s : ByteArray) : (sBits s).length = 8 * s.size := by
  unfold sBits
  have : ∀ l : List Int, (l.flatMap fun b => bitsOf 8 b).length = 8 * l.length := by
    intro l
    induction l with
    | nil => rfl
    | cons b l ih => rw [List.flatMap_cons, List.length_append, ih, bitsOf_length, List.length_cons]; omega
  rw [this, bytesOf_length]
theorem sBits_bits (s : ByteArray) : IsBits (sBits s) := by
  intro b hb
  simp only [sBits, List.mem_flatMap] at hb
  obtain ⟨p, _, hb⟩ := hb
  exact bitsOf_bits _ _ b hb
theorem strOfNums_bytesOf (s : ByteArray) : strOfNums (bytesOf s) = s := by
  unfold strOfNums bytesOf
  apply ByteArray.ext
  simp [Function.comp_def]
theorem packB_sBits (s : ByteArray) : packB (sBits s) = bytesOf s := by
  have := packB_bytes (bytesOf s) (bytesOf_range s) []
  rw [List.append_nil, packB_nil, List.append_nil] at this
  exact this

end Go.Proofs.Ytmdaaphjndjakaf.Gv

/- Plain words on strings of bytes as lists of numbers. No program in sight. -/
namespace Go.Proofs.Ytmdaaphjndjakaf.Gv
open Go.RowKit Go.Proofs.YtmdaaphjndjakafW.PrintWords
set_option linter.unusedVariables false

theorem bytesOf_inj {s t : ByteArray} (h : bytesOf s = bytesOf t) : s = t := by rw [← strOfNums_bytesOf s, ← strOfNums_bytesOf t, h]
theorem bytesOf_str (l : List Int) (h : ∀ b ∈ l, 0 ≤ b ∧ b ≤ 255) : bytesOf (strOfNums l) = l := by
  unfold bytesOf strOfNums
  simp only [List.map_map]
  have : ∀ b ∈ l, ((fun b : UInt8 => (b.toNat : Int)) ∘ fun n : Int => UInt8.ofNat n.toNat) b = id b := by
    intro b hb
    have := h b hb
    simp only [Function.comp, id]
    have e : (UInt8.ofNat b.toNat).toNat = b.toNat := by
      rw [UInt8.toNat_ofNat']
      omega
    rw [e]; omega
  rw [List.map_congr_left this, List.map_id]
theorem bytesOf_append (s t : ByteArray) : bytesOf (s ++ t) = bytesOf s ++ bytesOf t := by
  unfold bytesOf
  simp
theorem bytesOf_empty : bytesOf (⟨#[]⟩ : ByteArray) = [] := rfl
theorem bytesOf_extract (s : ByteArray) (a b : Nat) : bytesOf (s.extract a b) = ((bytesOf s).take b).drop a := by
  unfold bytesOf
  rw [← List.map_take, ← List.map_drop]
  congr 1
  simp [ByteArray.extract, ByteArray.copySlice, List.drop_take]
theorem bt_get (s : ByteArray) (i : Int) : bt s i = (bytesOf s).getD i.toNat 0 := (rd_bytesOf s i).symm
/-- A string's first bytes by name. -/
theorem bytesOf_head (s : ByteArray) (m : Nat) (h : m ≤ s.size) : bytesOf s = ((List.range m).map fun i => bt s (i : Nat)) ++ (bytesOf s).drop m := by
  have e : (List.range m).map (fun i => bt s ((i : Nat) : Int)) = (bytesOf s).take m := by
    apply List.ext_getElem
    · simp [bytesOf_length]; omega
    · intro i h1 h2
      have hi : i < (bytesOf s).length := by rw [bytesOf_length]; simp at h1; omega
      simp only [List.getElem_map, List.getElem_range, List.getElem_take]
      rw [bt_get, Int.toNat_natCast, List.getD_eq_getElem?_getD, List.getElem?_eq_getElem hi]
      rfl
  rw [e, List.take_append_drop]
theorem sBits_cons {s : ByteArray} {l : List Int} (h : bytesOf s = l) : sBits s = l.flatMap fun b => bitsOf 8 b := by unfold sBits; rw [h]
theorem flat_cons (b : Int) (l : List Int) : ((b :: l).flatMap fun b => bitsOf 8 b) = bitsOf 8 b ++ l.flatMap fun b => bitsOf 8 b := rfl
theorem vals_cons (w : Nat) (v : Int) (rest : List Int) (ws : List Int) : vals (bitsOf w v ++ rest) ((w : Int) :: ws) = v % 2 ^ w :: vals rest ws := by
  simp only [vals, Int.toNat_natCast]
  rw [List.take_append_of_le_length (by rw [bitsOf_length]; exact Nat.le_refl _), List.take_of_length_le (by rw [bitsOf_length]; exact Nat.le_refl _), valOf_bitsOf, List.drop_append_of_le_length (by rw [bitsOf_length]; exact Nat.le_refl _), List.drop_of_length_le (by rw [bitsOf_length]; exact Nat.le_refl _), List.nil_append]
theorem vals_none (l : List Int) : vals l [] = [] := rfl
/-- Two numbers behind each other. -/
theorem bitsOf_join (m n : Nat) (a b : Int) (h0 : 0 ≤ b) (h1 : b < 2 ^ n) : bitsOf m a ++ bitsOf n b = bitsOf (m + n) (a * 2 ^ n + b) := by
  have hp : (0 : Int) < 2 ^ n := Int.pow_pos (by decide)
  rw [bitsOf_add]
  have e1 : (a * 2 ^ n + b) / 2 ^ n = a := by
    rw [Int.add_comm, Int.add_mul_ediv_right _ _ (Int.ne_of_gt hp), Int.ediv_eq_zero_of_lt h0 h1]; omega
  have e2 : bitsOf n (a * 2 ^ n + b) = bitsOf n b := by
    rw [← bitsOf_mod n (a * 2 ^ n + b), Int.add_comm, Int.add_mul_emod_self_right, bitsOf_mod]
  rw [e1, e2]
theorem bitsOf_8 (v : Int) (w : Nat) : bitsOf (w + 8) v = bitsOf w (v / 256) ++ bitsOf 8 v := by
  rw [bitsOf_add]; rfl
theorem packB_last (b : Int) : packB (bitsOf 8 b) = [b % 256] := by
  have := packB_byte b []
  rwa [List.append_nil] at this
theorem strOfNums_append (l m : List Int) : strOfNums (l ++ m) = strOfNums l ++ strOfNums m := by
  unfold strOfNums
  apply ByteArray.ext
  simp
theorem size_bytesOf (s : ByteArray) : s.size = (bytesOf s).length := (bytesOf_length s).symm

end Go.Proofs.Ytmdaaphjndjakaf.Gv

/- Addresses out of texts: the program's Parse and the document's come to one plain word. -/
namespace Go.Proofs.Ytmdaaphjndjakaf.LAll
open Go.RowKit Go.Proofs.Ytmdaaphjndjakaf.PAll Go.Proofs.YtmdaaphjndjakafW.PrintWords Go.Proofs.YtmdaaphjndjakafW.PrintLast Go.Proofs.YtmdaaphjndjakafW.PrintMore Go.Proofs.Ytmdaaphjndjakaf
set_option linter.unusedVariables false
set_option linter.unusedSimpArgs false

theorem mp_wrap {n : Int} (h0 : -9223372036854775808 ≤ n) (h1 : n ≤ 9223372036854775807) : wrap64 n = n := by unfold wrap64; omega
theorem mp_u64 {n : Int} (h0 : 0 ≤ n) (h1 : n ≤ 18446744073709551615) : IntKind.u64.wrap n = n := by simp [IntKind.wrap, IntKind.bits, IntKind.signed]; omega
theorem mp_wraps (n : Int) (h₀ : 0 ≤ n) (h₁ : n < 2 ^ 64) : IntKind.u64.wrap n = n := mp_u64 h₀ (by omega)

/-- A digit's value; -1: it is none. -/
def dig (c : Int) : Int := if 48 ≤ c ∧ c ≤ 57 then c - 48 else if 97 ≤ c ∧ c ≤ 102 then c - 87 else -1
theorem dig_range (c : Int) : -1 ≤ dig c ∧ dig c ≤ 15 := by unfold dig; split <;> (try split) <;> omega
theorem index_all : ∀ n : Nat, n < 256 → Lib.indexByte (⟨#[48, 49, 50, 51, 52, 53, 54, 55, 56, 57, 97, 98, 99, 100, 101, 102]⟩ : ByteArray).data.toList n.toUInt8 = dig (n : Int) := by decide +kernel
theorem index_dig (c : Int) (h0 : 0 ≤ c) (h1 : c ≤ 255) : strings_IndexByte.f (⟨#[48, 49, 50, 51, 52, 53, 54, 55, 56, 57, 97, 98, 99, 100, 101, 102]⟩ : ByteArray) c = some (dig c) := by
  obtain ⟨n, rfl⟩ := Int.eq_ofNat_of_zero_le h0
  unfold strings_IndexByte.f
  rw [Int.toNat_natCast, index_all n (by omega)]

/-- Is what stands at place i as it should be? -/
def okAt (s : ByteArray) (i : Nat) : Bool := if i % 3 = 2 then bt s (i : Nat) == 58 else decide (0 ≤ dig (bt s (i : Nat)))
def okTo (s : ByteArray) : Nat → Bool
  | 0 => true
  | i + 1 => okTo s i && okAt s i
def valTo (s : ByteArray) : Nat → Int
  | 0 => 0
  | i + 1 => if i % 3 = 2 then valTo s i else valTo s i * 16 + dig (bt s (i : Nat))
/-- The address of a text. -/
def macParse (s : ByteArray) : Int × Int := if s.size = 17 then (if okTo s 17 = true then (valTo s 17, 0) else (0, 3)) else (0, 3)

theorem okTo_false (s : ByteArray) (i d : Nat) (h : okTo s i = false) : okTo s (i + d) = false := by
  induction d with
  | zero => exact h
  | succ d ih => show (okTo s (i + d) && _) = false; rw [ih]; rfl
theorem valTo_range (s : ByteArray) : ∀ i : Nat, okTo s i = true → 0 ≤ valTo s i ∧ valTo s i < 16 ^ (i - i / 3) := by
  intro i
  induction i with
  | zero => intro _; simp [valTo]
  | succ i ih =>
    intro h
    simp only [okTo, Bool.and_eq_true] at h
    have h1 := ih h.1
    simp only [valTo]
    by_cases h3 : i % 3 = 2
    · rw [if_pos h3, show i + 1 - (i + 1) / 3 = i - i / 3 from by omega]; exact h1
    · have hd := h.2
      simp only [okAt, if_neg h3, decide_eq_true_eq] at hd
      have := dig_range (bt s (i : Nat))
      rw [if_neg h3, show i + 1 - (i + 1) / 3 = (i - i / 3) + 1 from by omega, Int.pow_succ]
      omega
theorem pow16 {m : Nat} (h : m ≤ 12) : (16 : Int) ^ m ≤ 16 ^ 12 := by
  have := Nat.pow_le_pow_right (show 0 < 16 by decide) h
  exact_mod_cast this
theorem valTo_small (s : ByteArray) (i : Nat) (hi : i ≤ 17) (h : okTo s i = true) : 0 ≤ valTo s i ∧ valTo s i < 281474976710656 := by
  have := valTo_range s i h
  have h2 := pow16 (m := i - i / 3) (by omega)
  have h3 : (16 : Int) ^ 12 = 281474976710656 := by decide
  omega

theorem ev_parse_loop (s : ByteArray) (hs : s.size = 17) (d : Nat) : ∀ i : Nat, 17 - i = d → i ≤ 17 → okTo s i = true → Ev (fun k => mac_Parse.l0 k s (valTo s i) 17 (i : Int)) (macParse s) := by
  unfold macParse
  rw [if_pos hs]
  induction d with
  | zero =>
    intro i hi hi2 hok
    obtain rfl : i = 17 := by omega
    rw [if_pos hok]
    refine Ev.step (f := fun _ => some (valTo s 17, 0)) (fun k => ?_) (Ev.now _)
    simp only [mac_Parse.l0]
    rw [if_neg (by omega)]
  | succ d ih =>
    intro i hi hi2 hok
    have hb := bt_range s (i : Nat)
    have hv := valTo_small s i (by omega) hok
    have hm : Int.tmod (i : Int) 3 = ((i % 3 : Nat) : Int) := by rw [Int.tmod_eq_emod_of_nonneg (by omega)]; omega
    have e1 : wrap64 ((i : Int) + 1) = ((i + 1 : Nat) : Int) := mp_wrap (by omega) (by omega)
    have hfail : okAt s i = false → okTo s 17 = false := by
      intro h
      have := okTo_false s (i + 1) (17 - (i + 1)) (by simp [okTo, h])
      rwa [show i + 1 + (17 - (i + 1)) = 17 from by omega] at this
    have start : ∀ (b : Bool) r, (if i % 3 = 2 then bt s (i : Nat) == 58 else false) = b → Ev (fun k => mac_Parse.j1 k s (valTo s i) (i : Int) (dig (bt s (i : Nat))) 17 (i : Int) b) r → Ev (fun k => mac_Parse.l0 k s (valTo s i) 17 (i : Int)) r := by
      intro b r hbb h
      refine Ev.step (fun k => ?_) h
      simp only [mac_Parse.l0]
      rw [if_pos (by omega), if_pos (by omega), if_pos (by omega), index_dig _ hb.1 hb.2, hm]
      simp only [Option.bind_some]
      by_cases h3 : i % 3 = 2
      · rw [if_pos h3] at hbb
        rw [if_pos (by omega), hbb]
      · rw [if_neg h3] at hbb
        rw [if_neg (by omega), hbb]
    by_cases h3 : i % 3 = 2
    · by_cases hc : bt s (i : Nat) = 58
      · have hokn : okTo s (i + 1) = true := by simp [okTo, hok, okAt, h3, hc]
        have h := ih (i + 1) (by omega) (by omega) hokn
        have ev : valTo s (i + 1) = valTo s i := by simp [valTo, h3]
        rw [ev] at h
        refine start true _ (by simp [h3, hc]) (Ev.step (fun k => ?_) h)
        simp only [mac_Parse.j1]
        rw [if_pos trivial, e1]
      · rw [if_neg (by rw [hfail (by simp [okAt, h3, hc])]; simp)]
        refine start false _ (by simp [h3, hc]) (Ev.step (f := fun _ => some (0, 3)) (fun k => ?_) (Ev.now _))
        simp only [mac_Parse.j1]
        rw [if_neg (by simp), hm, if_neg (by omega)]
    · by_cases hc : 0 ≤ dig (bt s (i : Nat))
      · have hokn : okTo s (i + 1) = true := by simp [okTo, hok, okAt, h3, hc]
        have h := ih (i + 1) (by omega) (by omega) hokn
        have ev : valTo s (i + 1) = valTo s i * 16 + dig (bt s (i : Nat)) := by simp [valTo, h3]
        rw [ev] at h
        have hd := dig_range (bt s (i : Nat))
        have hj : Go.bits .or .u64 (IntKind.u64.wrap (valTo s i * 16)) (IntKind.u64.wrap (dig (bt s (i : Nat)))) = valTo s i * 16 + dig (bt s (i : Nat)) := by
          rw [mp_u64 (by omega) (by omega), mp_u64 (by omega) (by omega)]
          have p4 : (2 : Int) ^ 4 = 16 := by decide
          exact bits_join .u64 64 (by decide) mp_wraps 4 _ _ (by omega) (by omega) (by omega) (by omega) (by omega) (by omega)
        refine start false _ (by simp [h3]) (Ev.step (fun k => ?_) h)
        simp only [mac_Parse.j1]
        rw [if_neg (by simp), hm, if_pos (by omega), if_pos hc, hj, e1]
      · rw [if_neg (by rw [hfail (by simp [okAt, h3]; omega)]; simp)]
        refine start false _ (by simp [h3]) (Ev.step (f := fun _ => some (0, 3)) (fun k => ?_) (Ev.now _))
        simp only [mac_Parse.j1]
        rw [if_neg (by simp), hm, if_pos (by omega), if_neg hc]

/-- The program's Parse. -/
theorem ev_parse (s : ByteArray) : Ev (fun k => mac_Parse.f k s) (macParse s) := by
  by_cases hs : s.size = 17
  · have h := ev_parse_loop s hs _ 0 rfl (by omega) rfl
    refine Ev.congr (fun k => ?_) h
    unfold mac_Parse.f
    rw [if_pos (by omega), hs]
    rfl
  · refine Ev.congr (f := fun _ => some (macParse s)) (fun k => ?_) (Ev.now _)
    unfold mac_Parse.f macParse
    rw [if_neg (by omega), if_neg hs]

end Go.Proofs.Ytmdaaphjndjakaf.LAll

/- Plain words: packed bits split, and split bits packed. No program in sight. -/
namespace Go.Proofs.Ytmdaaphjndjakaf.Gv
open Go.RowKit Go.Proofs.YtmdaaphjndjakafW.PrintWords
set_option linter.unusedVariables false

theorem flat_take (n : Nat) : ∀ l : List Int, (l.flatMap fun b => bitsOf 8 b).take (8 * n) = (l.take n).flatMap fun b => bitsOf 8 b := by
  induction n with
  | zero => intro l; simp
  | succ n ih =>
    intro l
    cases l with
    | nil => simp
    | cons b l =>
      rw [List.flatMap_cons, List.take_succ_cons, List.flatMap_cons, List.take_append, bitsOf_length, List.take_of_length_le (by rw [bitsOf_length]; omega), show 8 * (n + 1) - 8 = 8 * n from by omega, ih]
theorem packB_flat (n : Nat) : ∀ bits : List Int, IsBits bits → bits.length = 8 * n → ((packB bits).flatMap fun b => bitsOf 8 b) = bits := by
  induction n with
  | zero =>
    intro bits h hl
    have e : bits = [] := List.eq_nil_of_length_eq_zero (by omega)
    rw [e]; rfl
  | succ n ih =>
    intro bits h hl
    have h8 : bitsOf 8 (valOf (bits.take 8)) = bits.take 8 := by
      have := bitsOf_valOf (l := bits.take 8) (fun b hb => h b (List.mem_of_mem_take hb))
      rwa [List.length_take, show min 8 bits.length = 8 from by omega] at this
    have e : bits = bitsOf 8 (valOf (bits.take 8)) ++ bits.drop 8 := by rw [h8]; exact (List.take_append_drop 8 bits).symm
    have hd := ih (bits.drop 8) (h.drop 8) (by rw [List.length_drop]; omega)
    generalize valOf (bits.take 8) = v at e
    generalize bits.drop 8 = m at e hd
    subst e
    have e2 := bitsOf_mod 8 v
    rw [show (2 : Int) ^ 8 = 256 from by decide] at e2
    rw [packB_byte, List.flatMap_cons, hd, e2]
/-- Whole bytes ahead: their bytes come first. -/
theorem packB_whole (n : Nat) : ∀ bits m : List Int, IsBits bits → bits.length = 8 * n → packB (bits ++ m) = packB bits ++ packB m := by
  intro bits m h hl
  have hr := packB_flat n bits h hl
  have h2 := packB_bytes (packB bits) (packB_range h) m
  rwa [hr] at h2
theorem foldl_sum (l : List Int) (a : Int) : l.foldl (· + ·) a = a + l.foldl (· + ·) 0 := by
  induction l generalizing a with
  | nil => simp
  | cons b l ih => rw [List.foldl_cons, List.foldl_cons, ih, ih (0 + b)]; omega
theorem sumW_cons (w : Int) (ws : List Int) : sumW (w :: ws) = w + sumW ws := by
  unfold sumW
  rw [List.foldl_cons, foldl_sum]; omega
theorem allBits_cons (p : Int × Int) (l : List (Int × Int)) : allBits (p :: l) = bitsOf p.1.toNat p.2 ++ allBits l := rfl
theorem bits_all (l : List (Int × Int)) : IsBits (allBits l) := by
  intro b hb
  simp only [allBits, List.mem_flatMap] at hb
  obtain ⟨p, _, hb⟩ := hb
  exact bitsOf_bits _ _ b hb
theorem okPart_w {p : Int × Int} (h : okPart p = true) : 1 ≤ p.1 ∧ p.1 ≤ 64 := by
  simp only [okPart, Bool.and_eq_true, decide_eq_true_eq] at h
  exact h.1
theorem okW_parts (l : List (Int × Int)) (h : l.all okPart = true) : okW (l.map (·.1)) = true := by
  simp only [okW, List.all_eq_true, List.mem_map] at *
  rintro x ⟨p, hp, rfl⟩
  have := okPart_w (h p hp)
  simp [this.1, this.2]
theorem sum_parts (l : List (Int × Int)) (h : l.all okPart = true) : sumW (l.map (·.1)) = ((allBits l).length : Int) := by
  induction l with
  | nil => rfl
  | cons p l ih =>
    rw [List.all_cons, Bool.and_eq_true] at h
    have := okPart_w h.1
    rw [List.map_cons, sumW_cons, ih h.2, allBits_cons, List.length_append, bitsOf_length]
    omega
theorem part_mod {p : Int × Int} (h : okPart p = true) (h0 : 0 ≤ p.2) (h1 : p.2 ≤ u64max) : p.2 % 2 ^ p.1.toNat = p.2 := by
  have hw := okPart_w h
  simp only [okPart, Bool.and_eq_true, Bool.or_eq_true, decide_eq_true_eq] at h
  have hp : (0 : Int) < 2 ^ p.1.toNat := Int.pow_pos (by decide)
  rcases h.2 with h2 | h2
  · have e : p.1.toNat = 64 := by omega
    rw [e, show (2 : Int) ^ 64 = 18446744073709551616 from by decide]
    unfold u64max at h1
    omega
  · rw [Int.emod_def, h2]; omega
theorem vals_parts (l : List (Int × Int)) (h : l.all okPart = true) (hu : isU64 l = true) (rest : List Int) : vals (allBits l ++ rest) (l.map (·.1)) = l.map (·.2) := by
  induction l with
  | nil => rfl
  | cons p l ih =>
    rw [List.all_cons, Bool.and_eq_true] at h
    simp only [isU64, List.all_cons, Bool.and_eq_true, decide_eq_true_eq] at hu
    have hw := okPart_w h.1
    have e := vals_cons p.1.toNat p.2 (allBits l ++ rest) (l.map (·.1))
    rw [Int.toNat_of_nonneg (by omega), part_mod h.1 hu.1.1 hu.1.2, ih h.2 (by simp only [isU64]; exact hu.2)] at e
    rw [List.map_cons, List.map_cons, allBits_cons, List.append_assoc, e]
/-- What is packed is split as it was, whatever is behind. -/
theorem split_pack (l : List (Int × Int)) (h : l.all okPart = true) (hu : isU64 l = true) (h8 : (allBits l).length % 8 = 0) (behind : ByteArray) :
    split (strOfNums (packB (allBits l)) ++ behind) (l.map (·.1)) = (l.map (·.2), behind, 0) := by
  have hb := bits_all l
  have e1 : bytesOf (strOfNums (packB (allBits l)) ++ behind) = packB (allBits l) ++ bytesOf behind := by
    rw [bytesOf_append, bytesOf_str _ (packB_range hb)]
  have hpl : (packB (allBits l)).length = (allBits l).length / 8 := by rw [packB_length]; omega
  have e2 : sBits (strOfNums (packB (allBits l)) ++ behind) = allBits l ++ sBits behind := by
    rw [sBits_cons e1, List.flatMap_append, packB_flat ((allBits l).length / 8) _ hb (by omega)]; rfl
  have hsz : (strOfNums (packB (allBits l)) ++ behind).size = (allBits l).length / 8 + behind.size := by
    rw [size_bytesOf, e1, List.length_append, hpl, bytesOf_length]
  unfold split
  rw [if_pos (okW_parts l h), sum_parts l h, if_pos (by omega), if_neg (by rw [hsz]; omega), e2, vals_parts l h hu]
  refine Prod.ext rfl (Prod.ext ?_ rfl)
  apply bytesOf_inj
  show bytesOf ((strOfNums (packB (allBits l)) ++ behind).extract _ _) = _
  rw [bytesOf_extract, e1, List.take_of_length_le (by rw [List.length_append, hpl, bytesOf_length, hsz]; omega)]
  rw [show (((allBits l).length : Int) / 8).toNat = (packB (allBits l)).length from by rw [hpl]; omega, List.drop_left]

theorem okW_cons {w : Int} {ws : List Int} (h : okW (w :: ws) = true) : 1 ≤ w ∧ w ≤ 64 ∧ okW ws = true := by
  simp only [okW, List.all_cons, Bool.and_eq_true, decide_eq_true_eq] at *
  exact ⟨h.1.1, h.1.2, h.2⟩
theorem sumW_nonneg (ws : List Int) (h : okW ws = true) : 0 ≤ sumW ws := by
  induction ws with
  | nil => simp [sumW]
  | cons w ws ih =>
    have := okW_cons h
    have := ih this.2.2
    rw [sumW_cons]; omega
theorem two_le {m : Nat} (h : m ≤ 64) : (2 : Int) ^ m ≤ 18446744073709551616 := by
  have : (2 : Nat) ^ m ≤ 2 ^ 64 := Nat.pow_le_pow_right (by decide) h
  have e : ((2 ^ m : Nat) : Int) = (2 : Int) ^ m := by push_cast; rfl
  rw [← e]
  have h64 : (2 : Nat) ^ 64 = 18446744073709551616 := by decide
  omega
theorem zip_bits (ws : List Int) : ∀ bits : List Int, IsBits bits → okW ws = true → sumW ws ≤ (bits.length : Int) →
    allBits (ws.zip (vals bits ws)) = bits.take (sumW ws).toNat ∧ (ws.zip (vals bits ws)).all okPart = true ∧ isU64 (ws.zip (vals bits ws)) = true := by
  induction ws with
  | nil => intro bits hb hok hl; simp [vals, allBits, sumW, isU64]
  | cons w ws ih =>
    intro bits hb hok hl
    have ho := okW_cons hok
    have hs := sumW_nonneg ws ho.2.2
    rw [sumW_cons] at hl
    have hd := ih (bits.drop w.toNat) (hb.drop _) ho.2.2 (by rw [List.length_drop]; omega)
    have hbt : IsBits (bits.take w.toNat) := fun b h => hb b (List.mem_of_mem_take h)
    have hlt : (bits.take w.toNat).length = w.toNat := by rw [List.length_take]; omega
    have hr := valOf_range hbt
    have hv := bitsOf_valOf hbt
    rw [hlt] at hr hv
    have h64 := two_le (m := w.toNat) (by omega)
    have ez : (w :: ws).zip (vals bits (w :: ws)) = (w, valOf (bits.take w.toNat)) :: ws.zip (vals (bits.drop w.toNat) ws) := rfl
    rw [ez]
    refine ⟨?_, ?_, ?_⟩
    · rw [allBits_cons, hd.1, sumW_cons]
      show bitsOf w.toNat (valOf (bits.take w.toNat)) ++ _ = _
      rw [hv, show (w + sumW ws).toNat = w.toNat + (sumW ws).toNat from by omega, List.take_add]
    · rw [List.all_cons, hd.2.1, Bool.and_true]
      simp only [okPart, Bool.and_eq_true, Bool.or_eq_true, decide_eq_true_eq]
      exact ⟨⟨ho.1, ho.2.1⟩, .inr (Int.ediv_eq_zero_of_lt hr.1 hr.2)⟩
    · have h3 := hd.2.2
      simp only [isU64, List.all_cons, Bool.and_eq_true, decide_eq_true_eq] at h3 ⊢
      refine ⟨⟨hr.1, ?_⟩, h3⟩
      unfold u64max
      omega
/-- What is split is packed as it was. -/
theorem pack_split (s : ByteArray) (ws : List Int) (hok : okW ws = true) (h8 : sumW ws % 8 = 0) (hsz : sumW ws / 8 ≤ (s.size : Int)) :
    strOfNums (packB (allBits (ws.zip (vals (sBits s) ws)))) ++ s.extract (sumW ws / 8).toNat s.size = s ∧ (allBits (ws.zip (vals (sBits s) ws))).length % 8 = 0 ∧
      (ws.zip (vals (sBits s) ws)).all okPart = true ∧ isU64 (ws.zip (vals (sBits s) ws)) = true := by
  have hs := sumW_nonneg ws hok
  have hz := zip_bits ws (sBits s) (sBits_bits s) hok (by rw [sBits_length]; omega)
  have hlen : ((sBits s).take (sumW ws).toNat).length = (sumW ws).toNat := by rw [List.length_take, sBits_length]; omega
  refine ⟨?_, ?_, hz.2.1, hz.2.2⟩
  · rw [hz.1]
    have e8 : (sumW ws).toNat = 8 * (sumW ws / 8).toNat := by omega
    have e : packB ((sBits s).take (sumW ws).toNat) = (bytesOf s).take (sumW ws / 8).toNat := by
      rw [e8]
      unfold sBits
      rw [flat_take]
      have := packB_bytes ((bytesOf s).take (sumW ws / 8).toNat) (fun b hb => bytesOf_range s b (List.mem_of_mem_take hb)) []
      rwa [List.append_nil, packB_nil, List.append_nil] at this
    rw [e]
    apply bytesOf_inj
    rw [bytesOf_append, bytesOf_str _ (fun b hb => bytesOf_range s b (List.mem_of_mem_take hb)), bytesOf_extract, List.take_of_length_le (l := bytesOf s) (i := s.size) (by rw [bytesOf_length]; omega), List.take_append_drop]
  · rw [hz.1, hlen]; omega

end Go.Proofs.Ytmdaaphjndjakaf.Gv

/- Plain words of layer 3: what is wrong with a frame, and its head's bytes. No program in sight. -/
namespace Go.Proofs.Ytmdaaphjndjakaf.Gv
open Go.RowKit Go.Proofs.YtmdaaphjndjakafW.PrintWords
set_option linter.unusedVariables false

/-- What is wrong with a frame. -/
def tagWrong (d s p v t : Int) (n : Nat) : Int :=
  if d < 281474976710656 ∧ s < 281474976710656 ∧ s / 1099511627776 % 2 = 0 then (if p ≤ 7 ∧ 1 ≤ v ∧ v ≤ 4094 then (if t < 1536 then 6 else if n > 1582 then 2 else 0) else 4) else 3
def bt1 (b : Bool) : Int := if b = true then 1 else 0
theorem bt1_range (b : Bool) : 0 ≤ bt1 b ∧ bt1 b ≤ 1 := by cases b <;> decide
/-- A frame's bytes ahead of its body. -/
def tagHead (d s p : Int) (b : Bool) (v t : Int) : ByteArray :=
  (((strOfNums (packB (bitsOf 48 d)) ++ strOfNums (packB (bitsOf 48 s))) ++ (⟨#[129, 0]⟩ : ByteArray)) ++ strOfNums (packB (bitsOf 16 (p * 8192 + v + bt1 b * 4096)))) ++ strOfNums (packB (bitsOf 16 t))
theorem tag_sizes (n : Int) : (strOfNums (packB (bitsOf 48 n))).size = 6 ∧ (strOfNums (packB (bitsOf 16 n))).size = 2 := by
  constructor <;> rw [strOfNums_size, packB_length, bitsOf_length]
theorem tagHead_size (d s p : Int) (b : Bool) (v t : Int) : (tagHead d s p b v t).size = 18 := by
  unfold tagHead
  simp only [ByteArray.size_append, (tag_sizes _).1, (tag_sizes _).2]
  rfl
def tagParts (d s p : Int) (b : Bool) (v t : Int) : List (Int × Int) := [(48, d), (48, s), (16, 33024), (3, p), (1, bt1 b), (12, v), (16, t)]
theorem tag_mark : packB (bitsOf 16 33024) = [129, 0] := by decide +kernel
theorem pack_tag (d s p : Int) (b : Bool) (v t : Int) (hd0 : 0 ≤ d) (hd1 : d < 281474976710656) (hs0 : 0 ≤ s) (hs1 : s < 281474976710656) (hp0 : 0 ≤ p) (hp1 : p ≤ 7) (hv0 : 0 ≤ v) (hv1 : v ≤ 4095) (ht0 : 0 ≤ t) (ht1 : t ≤ 65535) :
    pack (tagParts d s p b v t) = some (tagHead d s p b v t, 0) := by
  have p48 : (2 : Int) ^ (48 : Int).toNat = 281474976710656 := by decide
  have p16 : (2 : Int) ^ (16 : Int).toNat = 65536 := by decide
  have p3 : (2 : Int) ^ (3 : Int).toNat = 8 := by decide
  have p1 : (2 : Int) ^ (1 : Int).toNat = 2 := by decide
  have p12 : (2 : Int) ^ (12 : Int).toNat = 4096 := by decide
  have hb := bt1_range b
  have hu : isU64 (tagParts d s p b v t) = true := by
    simp only [tagParts, isU64, List.all_cons, List.all_nil, Bool.and_true, Bool.and_eq_true, decide_eq_true_eq]; unfold u64max; omega
  have hok : (tagParts d s p b v t).all okPart = true := by
    simp only [tagParts, List.all_cons, List.all_nil, okPart, p48, p16, p3, p1, p12, Bool.and_true, Bool.and_eq_true, Bool.or_eq_true, decide_eq_true_eq]
    refine ⟨⟨by omega, .inr (by omega)⟩, ⟨by omega, .inr (by omega)⟩, ⟨by omega, .inr (by omega)⟩, ⟨by omega, .inr (by omega)⟩, ⟨by omega, .inr (by omega)⟩, ⟨by omega, .inr (by omega)⟩, ⟨by omega, .inr (by omega)⟩⟩
  have hbits : allBits (tagParts d s p b v t) = bitsOf 48 d ++ (bitsOf 48 s ++ (bitsOf 16 33024 ++ (bitsOf 16 (p * 8192 + v + bt1 b * 4096) ++ bitsOf 16 t))) := by
    have q12 : (2 : Int) ^ 12 = 4096 := by decide
    have q1 : (2 : Int) ^ 1 = 2 := by decide
    have e1 := bitsOf_join 3 1 p (bt1 b) (by omega) (by rw [q1]; omega)
    have e2 := bitsOf_join 4 12 (p * 2 ^ 1 + bt1 b) v hv0 (by rw [q12]; omega)
    rw [q1] at e1 e2
    rw [q12] at e2
    rw [show (p * 2 + bt1 b) * 4096 + v = p * 8192 + v + bt1 b * 4096 from by omega] at e2
    have e3 : bitsOf 16 (p * 8192 + v + bt1 b * 4096) = bitsOf 3 p ++ (bitsOf 1 (bt1 b) ++ bitsOf 12 v) := by
      rw [← List.append_assoc]
      exact e2.symm.trans (by rw [← e1])
    rw [e3]
    simp only [tagParts, allBits, List.flatMap_cons, List.flatMap_nil, List.append_nil, List.append_assoc]
    rfl
  have hlen : (allBits (tagParts d s p b v t)).length % 8 = 0 := by
    rw [hbits]; simp only [List.length_append, bitsOf_length]
  unfold pack
  rw [if_pos ⟨hu, by simp [tagParts]⟩, if_pos hok, if_pos hlen, hbits]
  rw [packB_whole 6 _ _ (bitsOf_bits _ _) (bitsOf_length _ _), packB_whole 6 _ _ (bitsOf_bits _ _) (bitsOf_length _ _), packB_whole 2 _ _ (bitsOf_bits _ _) (bitsOf_length _ _), packB_whole 2 _ _ (bitsOf_bits _ _) (bitsOf_length _ _), tag_mark]
  have e : tagHead d s p b v t = strOfNums (packB (bitsOf 48 d) ++ (packB (bitsOf 48 s) ++ ([129, 0] ++ (packB (bitsOf 16 (p * 8192 + v + bt1 b * 4096)) ++ packB (bitsOf 16 t))))) := by
    unfold tagHead
    rw [strOfNums_append, strOfNums_append, strOfNums_append, strOfNums_append, ← ByteArray.append_assoc, ← ByteArray.append_assoc, ← ByteArray.append_assoc]
    rfl
  rw [e]
  rfl
theorem pack_two (n : Int) (h0 : 0 ≤ n) (h1 : n ≤ 65535) : pack [(16, n)] = some (strOfNums (packB (bitsOf 16 n)), 0) := by
  have p16 : (2 : Int) ^ (16 : Int).toNat = 65536 := by decide
  have hu : isU64 [((16 : Int), n)] = true := by
    simp only [isU64, List.all_cons, List.all_nil, Bool.and_true, Bool.and_eq_true, decide_eq_true_eq]; unfold u64max; omega
  have hok : [((16 : Int), n)].all okPart = true := by
    simp only [List.all_cons, List.all_nil, okPart, p16, Bool.and_true, Bool.and_eq_true, Bool.or_eq_true, decide_eq_true_eq]
    exact ⟨by omega, .inr (by omega)⟩
  have hbits : allBits [((16 : Int), n)] = bitsOf 16 n := by
    simp only [allBits, List.flatMap_cons, List.flatMap_nil, List.append_nil]; rfl
  unfold pack
  rw [if_pos ⟨hu, by simp⟩, if_pos hok, hbits, if_pos (by rw [bitsOf_length])]
  rfl
theorem pack_six (n : Int) (h0 : 0 ≤ n) (h1 : n < 281474976710656) : pack [(48, n)] = some (strOfNums (packB (bitsOf 48 n)), 0) := by
  have p48 : (2 : Int) ^ (48 : Int).toNat = 281474976710656 := by decide
  have hu : isU64 [((48 : Int), n)] = true := by
    simp only [isU64, List.all_cons, List.all_nil, Bool.and_true, Bool.and_eq_true, decide_eq_true_eq]; unfold u64max; omega
  have hok : [((48 : Int), n)].all okPart = true := by
    simp only [List.all_cons, List.all_nil, okPart, p48, Bool.and_true, Bool.and_eq_true, Bool.or_eq_true, decide_eq_true_eq]
    exact ⟨by omega, .inr (by omega)⟩
  have hbits : allBits [((48 : Int), n)] = bitsOf 48 n := by
    simp only [allBits, List.flatMap_cons, List.flatMap_nil, List.append_nil]; rfl
  unfold pack
  rw [if_pos ⟨hu, by simp⟩, if_pos hok, hbits, if_pos (by rw [bitsOf_length])]
  rfl

end Go.Proofs.Ytmdaaphjndjakaf.Gv

/- Plain words: the number of so many bytes of a string, from a place on; a tagged frame opened. No program in sight. -/
namespace Go.Proofs.Ytmdaaphjndjakaf.Gv
open Go.RowKit Go.Proofs.YtmdaaphjndjakafW.PrintWords
set_option linter.unusedVariables false

/-- The number of n bytes from place a on. -/
def numOf (s : ByteArray) (a n : Nat) : Int := valOf (((sBits s).drop (8 * a)).take (8 * n))
theorem flat_drop (n : Nat) : ∀ l : List Int, (l.flatMap fun b => bitsOf 8 b).drop (8 * n) = (l.drop n).flatMap fun b => bitsOf 8 b := by
  induction n with
  | zero => intro l; simp
  | succ n ih =>
    intro l
    cases l with
    | nil => simp
    | cons b l =>
      rw [List.flatMap_cons, List.drop_succ_cons, List.drop_append, bitsOf_length, List.drop_of_length_le (by rw [bitsOf_length]; omega), List.nil_append, show 8 * (n + 1) - 8 = 8 * n from by omega, ih]
theorem sBits_extract (s : ByteArray) (a : Nat) : sBits (s.extract a s.size) = (sBits s).drop (8 * a) := by
  unfold sBits
  rw [flat_drop, bytesOf_extract, List.take_of_length_le (by rw [bytesOf_length]; exact Nat.le_refl _)]
theorem drop_bits {l : List Int} (h : IsBits l) (k : Nat) : IsBits (l.drop k) := h.drop k
theorem num_bits (s : ByteArray) (a n : Nat) : IsBits (((sBits s).drop (8 * a)).take (8 * n)) := fun b hb => sBits_bits s b (List.mem_of_mem_drop (List.mem_of_mem_take hb))
theorem num_len (s : ByteArray) (a n : Nat) (h : a + n ≤ s.size) : (((sBits s).drop (8 * a)).take (8 * n)).length = 8 * n := by
  rw [List.length_take, List.length_drop, sBits_length]; omega
theorem numOf_range (s : ByteArray) (a n : Nat) (h : a + n ≤ s.size) : 0 ≤ numOf s a n ∧ numOf s a n < 2 ^ (8 * n) := by
  have := valOf_range (num_bits s a n)
  rwa [num_len s a n h] at this
theorem num_back (s : ByteArray) (a n : Nat) (h : a + n ≤ s.size) : bitsOf (8 * n) (numOf s a n) = ((sBits s).drop (8 * a)).take (8 * n) := by
  have := bitsOf_valOf (num_bits s a n)
  rwa [num_len s a n h] at this
theorem num_cut (s : ByteArray) (a n : Nat) (h : a + n ≤ s.size) : (sBits s).drop (8 * a) = bitsOf (8 * n) (numOf s a n) ++ (sBits s).drop (8 * (a + n)) := by
  rw [num_back s a n h, show 8 * (a + n) = 8 * a + 8 * n from by omega, ← List.drop_drop, List.take_append_drop]
theorem num_bytes (s : ByteArray) (a n : Nat) (h : a + n ≤ s.size) : strOfNums (packB (bitsOf (8 * n) (numOf s a n))) = s.extract a (a + n) := by
  rw [num_back s a n h]
  unfold sBits
  rw [flat_drop, flat_take]
  have := packB_bytes (((bytesOf s).drop a).take n) (fun b hb => bytesOf_range s b (List.mem_of_mem_drop (List.mem_of_mem_take hb))) []
  rw [List.append_nil, packB_nil, List.append_nil] at this
  rw [this]
  apply bytesOf_inj
  rw [bytesOf_str _ (fun b hb => bytesOf_range s b (List.mem_of_mem_drop (List.mem_of_mem_take hb))), bytesOf_extract, List.drop_take, show a + n - a = n from by omega]
theorem bits8_take (b : Int) (l : List Int) : (bitsOf 8 b ++ l).take 8 = bitsOf 8 b := by
  rw [List.take_append_of_le_length (by rw [bitsOf_length]; exact Nat.le_refl _), List.take_of_length_le (by rw [bitsOf_length]; exact Nat.le_refl _)]
theorem num_one (s : ByteArray) (a : Nat) (h : a < s.size) : numOf s a 1 = bt s (a : Int) := by
  unfold numOf sBits
  rw [flat_drop]
  have hl : a < (bytesOf s).length := by rw [bytesOf_length]; exact h
  rw [List.drop_eq_getElem_cons hl, List.flatMap_cons, show 8 * 1 = 8 from rfl, bits8_take, valOf_bitsOf, show (2 : Int) ^ 8 = 256 from by decide]
  have hr := bytesOf_range s (bytesOf s)[a] (List.getElem_mem hl)
  rw [bt_get, Int.toNat_natCast, List.getD_eq_getElem?_getD, List.getElem?_eq_getElem hl, Int.emod_eq_of_lt hr.1 (by omega)]
  rfl
/-- A number of m + n bytes: of the first m, then of n more. -/
theorem num_add (s : ByteArray) (a m n : Nat) (h : a + (m + n) ≤ s.size) : numOf s a (m + n) = numOf s a m * 2 ^ (8 * n) + numOf s (a + m) n := by
  have hl := num_len s (a + m) n (by omega)
  unfold numOf at *
  rw [show 8 * (m + n) = 8 * m + 8 * n from by omega, List.take_add, valOf_append, List.drop_drop, show 8 * a + 8 * m = 8 * (a + m) from by omega, hl]
theorem num_two (s : ByteArray) (a : Nat) (h : a + 2 ≤ s.size) : numOf s a 2 = bt s (a : Int) * 256 + bt s ((a + 1 : Nat) : Int) := by
  have := num_add s a 1 1 (by omega)
  rw [this, num_one s a (by omega), num_one s (a + 1) (by omega)]
  rfl
theorem split_one (s : ByteArray) (n : Nat) (h1 : 1 ≤ n) (h8 : n ≤ 8) (h : n ≤ s.size) : split s [((8 * n : Nat) : Int)] = ([valOf ((sBits s).take (8 * n))], s.extract n s.size, 0) := by
  have e1 : okW [((8 * n : Nat) : Int)] = true := by simp [okW]; omega
  have e2 : sumW [((8 * n : Nat) : Int)] = ((8 * n : Nat) : Int) := by simp [sumW]
  have e3 : vals (sBits s) [((8 * n : Nat) : Int)] = [valOf ((sBits s).take (8 * n))] := rfl
  unfold split
  rw [if_pos e1, e2, if_pos (by omega), if_neg (by omega), e3, show (((8 * n : Nat) : Int) / 8).toNat = n from by omega]

/-! ### a tagged frame -/
def tagW : List Int := [48, 48, 16, 3, 1, 12, 16]
theorem split_tag (s : ByteArray) (h : 18 ≤ s.size) :
    split s tagW = ([numOf s 0 6, numOf s 6 6, numOf s 12 2, numOf s 14 2 / 8192, numOf s 14 2 / 4096 % 2, numOf s 14 2 % 4096, numOf s 16 2], s.extract 18 s.size, 0) := by
  have e1 : okW tagW = true := by decide
  have e2 : sumW tagW = 144 := by decide
  unfold split
  rw [if_pos e1, e2, if_pos (by decide), if_neg (by omega)]
  have r0 := numOf_range s 0 6 (by omega); have r1 := numOf_range s 6 6 (by omega); have r2 := numOf_range s 12 2 (by omega); have r3 := numOf_range s 14 2 (by omega); have r4 := numOf_range s 16 2 (by omega)
  have c0 := num_cut s 0 6 (by omega); have c1 := num_cut s 6 6 (by omega); have c2 := num_cut s 12 2 (by omega); have c3 := num_cut s 14 2 (by omega); have c4 := num_cut s 16 2 (by omega)
  have p48 : (2 : Int) ^ (8 * 6) = 281474976710656 := by decide
  have p16 : (2 : Int) ^ (8 * 2) = 65536 := by decide
  rw [p48] at r0 r1
  rw [p16] at r2 r3 r4
  rw [Nat.mul_zero, List.drop_zero] at c0
  have d3 : bitsOf (8 * 2) (numOf s 14 2) = bitsOf 3 (numOf s 14 2 / 8192) ++ (bitsOf 1 (numOf s 14 2 / 4096) ++ bitsOf 12 (numOf s 14 2)) := by
    have a1 := bitsOf_add 4 12 (numOf s 14 2)
    have a2 := bitsOf_add 3 1 (numOf s 14 2 / 2 ^ 12)
    rw [show (2 : Int) ^ 12 = 4096 from by decide] at a1 a2
    rw [show (2 : Int) ^ 1 = 2 from by decide, Int.ediv_ediv_of_nonneg (by decide)] at a2
    rw [← List.append_assoc]
    exact a1.trans (by rw [show (4 : Nat) = 3 + 1 from rfl, a2]; rfl)
  have e4 : vals (sBits s) tagW = [numOf s 0 6, numOf s 6 6, numOf s 12 2, numOf s 14 2 / 8192, numOf s 14 2 / 4096 % 2, numOf s 14 2 % 4096, numOf s 16 2] := by
    rw [c0, c1, c2, c3, c4, d3, List.append_assoc, List.append_assoc, show tagW = (((8 * 6 : Nat) : Int)) :: ((8 * 6 : Nat) : Int) :: ((8 * 2 : Nat) : Int) :: ((3 : Nat) : Int) :: ((1 : Nat) : Int) :: ((12 : Nat) : Int) :: ((8 * 2 : Nat) : Int) :: [] from rfl]
    rw [vals_cons, vals_cons, vals_cons, vals_cons, vals_cons, vals_cons, vals_cons, vals_none, p48, p16]
    rw [show (2 : Int) ^ 3 = 8 from by decide, show (2 : Int) ^ 1 = 2 from by decide, show (2 : Int) ^ 12 = 4096 from by decide]
    rw [Int.emod_eq_of_lt r0.1 r0.2, Int.emod_eq_of_lt r1.1 r1.2, Int.emod_eq_of_lt r2.1 r2.2, Int.emod_eq_of_lt r4.1 r4.2, Int.emod_eq_of_lt (a := numOf s 14 2 / 8192) (by omega) (by omega)]
  rw [e4]
  rfl
theorem split_tag_short (s : ByteArray) (h : s.size < 18) : split s tagW = ([], ⟨#[]⟩, 1) := by
  have e1 : okW tagW = true := by decide
  have e2 : sumW tagW = 144 := by decide
  unfold split
  rw [if_pos e1, e2, if_pos (by decide), if_pos (by omega)]
/-- Nothing, and what is wrong. -/
def tagNone (e : Int) : Int × Int × Int × Bool × Int × Int × ByteArray × Int := (0, 0, 0, false, 0, 0, ⟨#[]⟩, e)
/-- The frame of bytes, or what is wrong. -/
def tagOpen (s : ByteArray) : Int × Int × Int × Bool × Int × Int × ByteArray × Int :=
  if s.size > 1600 then tagNone 2
  else if s.size < 18 then tagNone 1
  else if numOf s 12 2 = 33024 then
    (if tagWrong (numOf s 0 6) (numOf s 6 6) (numOf s 14 2 / 8192) (numOf s 14 2 % 4096) (numOf s 16 2) (s.size - 18) = 0
      then (numOf s 0 6, numOf s 6 6, numOf s 14 2 / 8192, numOf s 14 2 / 4096 % 2 == 1, numOf s 14 2 % 4096, numOf s 16 2, s.extract 18 s.size, 0)
      else tagNone (tagWrong (numOf s 0 6) (numOf s 6 6) (numOf s 14 2 / 8192) (numOf s 14 2 % 4096) (numOf s 16 2) (s.size - 18)))
  else tagNone 5
theorem tagHead_packed (d s p : Int) (b : Bool) (v t : Int) (hd0 : 0 ≤ d) (hd1 : d < 281474976710656) (hs0 : 0 ≤ s) (hs1 : s < 281474976710656) (hp0 : 0 ≤ p) (hp1 : p ≤ 7) (hv0 : 0 ≤ v) (hv1 : v ≤ 4095) (ht0 : 0 ≤ t) (ht1 : t ≤ 65535) (body : ByteArray) :
    split (tagHead d s p b v t ++ body) tagW = ([d, s, 33024, p, bt1 b, v, t], body, 0) := by
  have h := pack_tag d s p b v t hd0 hd1 hs0 hs1 hp0 hp1 hv0 hv1 ht0 ht1
  unfold pack at h
  by_cases h1 : isU64 (tagParts d s p b v t) = true ∧ (tagParts d s p b v t).length ≤ 1000000
  · rw [if_pos h1] at h
    by_cases h2 : (tagParts d s p b v t).all okPart = true
    · rw [if_pos h2] at h
      by_cases h3 : (allBits (tagParts d s p b v t)).length % 8 = 0
      · rw [if_pos h3] at h
        have e : ofNums (packB (allBits (tagParts d s p b v t))) = tagHead d s p b v t := (Prod.mk.inj (Option.some.inj h)).1
        rw [← e]
        exact split_pack (tagParts d s p b v t) h2 h1.1 h3 body
      · rw [if_neg h3] at h; simp at h
    · rw [if_neg h2] at h; simp at h
  · rw [if_neg h1] at h; simp at h
theorem tagWrong_zero {d s p v t : Int} {n : Nat} (h : tagWrong d s p v t n = 0) : (d < 281474976710656 ∧ s < 281474976710656 ∧ s / 1099511627776 % 2 = 0) ∧ (p ≤ 7 ∧ 1 ≤ v ∧ v ≤ 4094) ∧ ¬ t < 1536 ∧ ¬ n > 1582 := by
  unfold tagWrong at h
  by_cases h1 : d < 281474976710656 ∧ s < 281474976710656 ∧ s / 1099511627776 % 2 = 0
  · rw [if_pos h1] at h
    by_cases h2 : p ≤ 7 ∧ 1 ≤ v ∧ v ≤ 4094
    · rw [if_pos h2] at h
      by_cases h3 : t < 1536
      · rw [if_pos h3] at h; omega
      · rw [if_neg h3] at h
        by_cases h4 : n > 1582
        · rw [if_pos h4] at h; omega
        · exact ⟨h1, h2, h3, h4⟩
    · rw [if_neg h2] at h; omega
  · rw [if_neg h1] at h; omega
/-- What is closed is opened as it was. -/
theorem tag_there (d s p : Int) (b : Bool) (v t : Int) (body : ByteArray) (hd0 : 0 ≤ d) (hs0 : 0 ≤ s) (hp0 : 0 ≤ p) (hv0 : 0 ≤ v) (ht0 : 0 ≤ t) (ht1 : t ≤ 65535) (h : tagWrong d s p v t body.size = 0) :
    tagOpen (tagHead d s p b v t ++ body) = (d, s, p, b, v, t, body, 0) := by
  have hz := tagWrong_zero h
  have hsz : (tagHead d s p b v t ++ body).size = 18 + body.size := by rw [ByteArray.size_append, tagHead_size]
  have e1 := tagHead_packed d s p b v t hd0 hz.1.1 hs0 hz.1.2.1 hp0 hz.2.1.1 hv0 (by omega) ht0 ht1 body
  have e2 := split_tag (tagHead d s p b v t ++ body) (by omega)
  rw [e1] at e2
  generalize tagHead d s p b v t ++ body = x at e2 hsz
  simp only [Prod.mk.injEq, List.cons.injEq, and_true] at e2
  obtain ⟨⟨a0, a1, a2, a3, a4, a5, a6⟩, a7⟩ := e2
  unfold tagOpen
  rw [if_neg (by omega), if_neg (by omega), ← a0, ← a1, ← a2, ← a3, ← a4, ← a5, ← a6, ← a7, if_pos rfl, hsz, show 18 + body.size - 18 = body.size from by omega, if_pos h]
  have eb : (bt1 b == 1) = b := by cases b <;> rfl
  rw [eb]
theorem ext_join (s : ByteArray) (a b c : Nat) (h1 : a ≤ b) (h2 : b ≤ c) (h3 : c ≤ s.size) : s.extract a b ++ s.extract b c = s.extract a c := by
  apply bytesOf_inj
  rw [bytesOf_append, bytesOf_extract, bytesOf_extract, bytesOf_extract]
  have hl : (bytesOf s).length = s.size := bytesOf_length s
  rw [List.drop_take, List.drop_take, List.drop_take, show c - a = (b - a) + (c - b) from by omega, List.take_add, List.drop_drop, show a + (b - a) = b from by omega]
theorem ext_whole (s : ByteArray) : s.extract 0 s.size = s := by
  apply bytesOf_inj
  rw [bytesOf_extract, List.take_of_length_le (by rw [bytesOf_length]; exact Nat.le_refl _), List.drop_zero]
theorem bt1_of (n : Int) : bt1 (n % 2 == 1) = n % 2 := by
  rcases mod2 n with h | h <;> rw [h] <;> rfl
/-- What is opened is closed as it was. -/
theorem tag_back (s : ByteArray) (h : 18 ≤ s.size) (hm : numOf s 12 2 = 33024) :
    tagHead (numOf s 0 6) (numOf s 6 6) (numOf s 14 2 / 8192) (numOf s 14 2 / 4096 % 2 == 1) (numOf s 14 2 % 4096) (numOf s 16 2) ++ s.extract 18 s.size = s := by
  have b0 := num_bytes s 0 6 (by omega); have b1 := num_bytes s 6 6 (by omega); have b2 := num_bytes s 12 2 (by omega); have b3 := num_bytes s 14 2 (by omega); have b4 := num_bytes s 16 2 (by omega)
  rw [hm, show 8 * 2 = 16 from rfl, tag_mark, show strOfNums [129, 0] = (⟨#[129, 0]⟩ : ByteArray) from rfl] at b2
  have en : numOf s 14 2 / 8192 * 8192 + numOf s 14 2 % 4096 + bt1 (numOf s 14 2 / 4096 % 2 == 1) * 4096 = numOf s 14 2 := by
    rw [bt1_of]; omega
  unfold tagHead
  rw [en]
  rw [show (16 : Nat) = 8 * 2 from rfl, show (48 : Nat) = 8 * 6 from rfl, b0, b1, b2, b3, b4]
  simp only [Nat.reduceAdd]
  rw [ext_join s 0 6 12 (by omega) (by omega) (by omega), ext_join s 0 12 14 (by omega) (by omega) (by omega), ext_join s 0 14 16 (by omega) (by omega) (by omega), ext_join s 0 16 18 (by omega) (by omega) (by omega), ext_join s 0 18 s.size (by omega) (by omega) (by omega), ext_whole]

end Go.Proofs.Ytmdaaphjndjakaf.Gv

/- An address's text: plain words; read it is the address; what is read is written as it was. -/
namespace Go.Proofs.Ytmdaaphjndjakaf.LAll
open Go.RowKit Go.Proofs.Ytmdaaphjndjakaf.PAll Go.Proofs.YtmdaaphjndjakafW.PrintWords Go.Proofs.YtmdaaphjndjakafW.PrintLast Go.Proofs.YtmdaaphjndjakafW.PrintMore Go.Proofs.Ytmdaaphjndjakaf
set_option linter.unusedVariables false
set_option linter.unusedSimpArgs false

/-- A digit. -/
def hexc (d : Int) : Int := if d < 10 then 48 + d else 87 + d
def hex2 (b : Int) : List Int := [hexc (b / 16), hexc (b % 16)]
def txt : List Int → List Int
  | [] => []
  | [b] => hex2 b
  | b :: c :: l => hex2 b ++ 58 :: txt (c :: l)
theorem hexc_range (d : Int) (h0 : 0 ≤ d) (h1 : d ≤ 15) : 48 ≤ hexc d ∧ hexc d ≤ 102 := by unfold hexc; split <;> omega
theorem dig_hexc (d : Int) (h0 : 0 ≤ d) (h1 : d ≤ 15) : dig (hexc d) = d := by
  unfold hexc dig
  by_cases h : d < 10
  · rw [if_pos h, if_pos (by omega)]; omega
  · rw [if_neg h, if_neg (by omega), if_pos (by omega)]; omega
theorem hexc_dig (c : Int) (h : 0 ≤ dig c) : hexc (dig c) = c := by
  unfold dig at *
  by_cases h1 : 48 ≤ c ∧ c ≤ 57
  · rw [if_pos h1] at *; unfold hexc; rw [if_pos (by omega)]; omega
  · rw [if_neg h1] at *
    by_cases h2 : 97 ≤ c ∧ c ≤ 102
    · rw [if_pos h2] at *; unfold hexc; rw [if_neg (by omega)]; omega
    · rw [if_neg h2] at *; omega
theorem pack_48 (n : Int) : Gv.packB (Gv.bitsOf 48 n) = [n / 1099511627776 % 256, n / 4294967296 % 256, n / 16777216 % 256, n / 65536 % 256, n / 256 % 256, n % 256] := by
  rw [show (48 : Nat) = 40 + 8 from rfl, Gv.bitsOf_8, show (40 : Nat) = 32 + 8 from rfl, Gv.bitsOf_8, show (32 : Nat) = 24 + 8 from rfl, Gv.bitsOf_8, show (24 : Nat) = 16 + 8 from rfl, Gv.bitsOf_8, show (16 : Nat) = 8 + 8 from rfl, Gv.bitsOf_8]
  simp only [List.append_assoc]
  rw [Gv.packB_byte, Gv.packB_byte, Gv.packB_byte, Gv.packB_byte, Gv.packB_byte, Gv.packB_last]
  simp only [List.cons.injEq, and_true]
  omega
/-- The text of an address. -/
def macText (n : Int) : ByteArray := strOfNums (txt (Gv.packB (Gv.bitsOf 48 n)))
theorem text_bytes (n : Int) : bytesOf (macText n) =
    [hexc (n / 1099511627776 % 256 / 16), hexc (n / 1099511627776 % 256 % 16), 58, hexc (n / 4294967296 % 256 / 16), hexc (n / 4294967296 % 256 % 16), 58, hexc (n / 16777216 % 256 / 16), hexc (n / 16777216 % 256 % 16), 58,
      hexc (n / 65536 % 256 / 16), hexc (n / 65536 % 256 % 16), 58, hexc (n / 256 % 256 / 16), hexc (n / 256 % 256 % 16), 58, hexc (n % 256 / 16), hexc (n % 256 % 16)] := by
  unfold macText
  rw [pack_48]
  have e : ∀ a b c d e f : Int, txt [a, b, c, d, e, f] = [hexc (a / 16), hexc (a % 16), 58, hexc (b / 16), hexc (b % 16), 58, hexc (c / 16), hexc (c % 16), 58, hexc (d / 16), hexc (d % 16), 58, hexc (e / 16), hexc (e % 16), 58, hexc (f / 16), hexc (f % 16)] := fun _ _ _ _ _ _ => rfl
  rw [e, Gv.bytesOf_str]
  intro x hx
  have q : ∀ d : Int, 0 ≤ d → d ≤ 15 → 0 ≤ hexc d ∧ hexc d ≤ 255 := fun d h0 h1 => by have := hexc_range d h0 h1; omega
  simp only [List.mem_cons, List.mem_nil_iff, or_false] at hx
  rcases hx with rfl | rfl | rfl | rfl | rfl | rfl | rfl | rfl | rfl | rfl | rfl | rfl | rfl | rfl | rfl | rfl | rfl <;> first | exact q _ (by omega) (by omega) | decide
theorem text_size (n : Int) : (macText n).size = 17 := by rw [Gv.size_bytesOf, text_bytes]; rfl

/-- Read it is the address. -/
theorem parse_text (n : Int) (h0 : 0 ≤ n) (h1 : n < 281474976710656) : macParse (macText n) = (n, 0) := by
  have hb := text_bytes n
  have hs := text_size n
  generalize macText n = s at hb hs
  have g : ∀ (i : Nat) (v : Int), (bytesOf s).getD i 0 = v → bt s ((i : Nat) : Int) = v := fun i v h => by rw [Gv.bt_get, Int.toNat_natCast]; exact h
  rw [hb] at g
  have a0 := g 0 _ rfl; have a1 := g 1 _ rfl; have a2 := g 2 _ rfl; have a3 := g 3 _ rfl; have a4 := g 4 _ rfl; have a5 := g 5 _ rfl; have a6 := g 6 _ rfl; have a7 := g 7 _ rfl; have a8 := g 8 _ rfl
  have a9 := g 9 _ rfl; have a10 := g 10 _ rfl; have a11 := g 11 _ rfl; have a12 := g 12 _ rfl; have a13 := g 13 _ rfl; have a14 := g 14 _ rfl; have a15 := g 15 _ rfl; have a16 := g 16 _ rfl
  simp only [List.getD_cons_zero, List.getD_cons_succ] at a0 a1 a2 a3 a4 a5 a6 a7 a8 a9 a10 a11 a12 a13 a14 a15 a16
  have d0 := dig_hexc (n / 1099511627776 % 256 / 16) (by omega) (by omega); have d1 := dig_hexc (n / 1099511627776 % 256 % 16) (by omega) (by omega)
  have d2 := dig_hexc (n / 4294967296 % 256 / 16) (by omega) (by omega); have d3 := dig_hexc (n / 4294967296 % 256 % 16) (by omega) (by omega)
  have d4 := dig_hexc (n / 16777216 % 256 / 16) (by omega) (by omega); have d5 := dig_hexc (n / 16777216 % 256 % 16) (by omega) (by omega)
  have d6 := dig_hexc (n / 65536 % 256 / 16) (by omega) (by omega); have d7 := dig_hexc (n / 65536 % 256 % 16) (by omega) (by omega)
  have d8 := dig_hexc (n / 256 % 256 / 16) (by omega) (by omega); have d9 := dig_hexc (n / 256 % 256 % 16) (by omega) (by omega)
  have d10 := dig_hexc (n % 256 / 16) (by omega) (by omega); have d11 := dig_hexc (n % 256 % 16) (by omega) (by omega)
  have hok : okTo s 17 = true := by
    simp only [okTo, okAt, a0, a1, a2, a3, a4, a5, a6, a7, a8, a9, a10, a11, a12, a13, a14, a15, a16, d0, d1, d2, d3, d4, d5, d6, d7, d8, d9, d10, d11, Nat.reduceMod, Nat.reduceEqDiff, if_true, if_false, Bool.and_eq_true, decide_eq_true_eq, Bool.true_and, beq_self_eq_true, Bool.and_true]
    omega
  have hv : valTo s 17 = n := by
    simp only [valTo, a0, a1, a2, a3, a4, a5, a6, a7, a8, a9, a10, a11, a12, a13, a14, a15, a16, d0, d1, d2, d3, d4, d5, d6, d7, d8, d9, d10, d11, Nat.reduceMod, Nat.reduceEqDiff, if_true, if_false]
    omega
  unfold macParse
  rw [if_pos hs, if_pos hok, hv]

/-- What is read is written as it was. -/
theorem text_parse (s : ByteArray) (h : (macParse s).2 = 0) : macText (macParse s).1 = s ∧ (macParse s).1 < 281474976710656 ∧ 0 ≤ (macParse s).1 := by
  unfold macParse at *
  by_cases hs : s.size = 17
  · rw [if_pos hs] at *
    by_cases hok : okTo s 17 = true
    · rw [if_pos hok] at *
      have hr := valTo_small s 17 (by omega) hok
      refine ⟨?_, hr.2, hr.1⟩
      show macText (valTo s 17) = s
      apply Gv.bytesOf_inj
      have hh := Gv.bytesOf_head s 17 (by omega)
      rw [List.drop_of_length_le (by rw [bytesOf_length]; omega), List.append_nil] at hh
      rw [text_bytes, hh]
      simp only [okTo, okAt, Nat.reduceMod, Nat.reduceEqDiff, if_true, if_false, Bool.and_eq_true, decide_eq_true_eq, beq_iff_eq, Bool.true_and] at hok
      have q := fun i : Nat => dig_range (bt s (i : Int))
      have q0 := q 0; have q1 := q 1; have q3 := q 3; have q4 := q 4; have q6 := q 6; have q7 := q 7; have q9 := q 9; have q10 := q 10; have q12 := q 12; have q13 := q 13; have q15 := q 15; have q16 := q 16
      have hv : valTo s 17 = ((((((((((((0 * 16 + dig (bt s ((0 : Nat) : Int))) * 16 + dig (bt s ((1 : Nat) : Int))) * 16 + dig (bt s ((3 : Nat) : Int))) * 16 + dig (bt s ((4 : Nat) : Int))) * 16 + dig (bt s ((6 : Nat) : Int))) * 16 + dig (bt s ((7 : Nat) : Int))) * 16 + dig (bt s ((9 : Nat) : Int))) * 16 + dig (bt s ((10 : Nat) : Int))) * 16 + dig (bt s ((12 : Nat) : Int))) * 16 + dig (bt s ((13 : Nat) : Int))) * 16 + dig (bt s ((15 : Nat) : Int))) * 16 + dig (bt s ((16 : Nat) : Int))) := by
        simp only [valTo, Nat.reduceMod, Nat.reduceEqDiff, if_true, if_false]
      have c := fun i : Nat => hexc_dig (bt s (i : Int))
      obtain ⟨⟨⟨⟨⟨⟨⟨⟨⟨⟨⟨⟨⟨⟨⟨⟨k0, k1⟩, k2⟩, k3⟩, k4⟩, k5⟩, k6⟩, k7⟩, k8⟩, k9⟩, k10⟩, k11⟩, k12⟩, k13⟩, k14⟩, k15⟩, k16⟩ := hok
      have c0 := c 0 k0; have c1 := c 1 k1; have c3 := c 3 k3; have c4 := c 4 k4; have c6 := c 6 k6; have c7 := c 7 k7; have c9 := c 9 k9; have c10 := c 10 k10; have c12 := c 12 k12; have c13 := c 13 k13; have c15 := c 15 k15; have c16 := c 16 k16
      generalize valTo s 17 = z at hv
      generalize dig (bt s ((0 : Nat) : Int)) = x0 at *
      generalize dig (bt s ((1 : Nat) : Int)) = x1 at *
      generalize dig (bt s ((3 : Nat) : Int)) = x2 at *
      generalize dig (bt s ((4 : Nat) : Int)) = x3 at *
      generalize dig (bt s ((6 : Nat) : Int)) = x4 at *
      generalize dig (bt s ((7 : Nat) : Int)) = x5 at *
      generalize dig (bt s ((9 : Nat) : Int)) = x6 at *
      generalize dig (bt s ((10 : Nat) : Int)) = x7 at *
      generalize dig (bt s ((12 : Nat) : Int)) = x8 at *
      generalize dig (bt s ((13 : Nat) : Int)) = x9 at *
      generalize dig (bt s ((15 : Nat) : Int)) = x10 at *
      generalize dig (bt s ((16 : Nat) : Int)) = x11 at *
      have e0 : z / 1099511627776 % 256 / 16 = x0 := by omega
      have e1 : z / 1099511627776 % 256 % 16 = x1 := by omega
      have e2 : z / 4294967296 % 256 / 16 = x2 := by omega
      have e3 : z / 4294967296 % 256 % 16 = x3 := by omega
      have e4 : z / 16777216 % 256 / 16 = x4 := by omega
      have e5 : z / 16777216 % 256 % 16 = x5 := by omega
      have e6 : z / 65536 % 256 / 16 = x6 := by omega
      have e7 : z / 65536 % 256 % 16 = x7 := by omega
      have e8 : z / 256 % 256 / 16 = x8 := by omega
      have e9 : z / 256 % 256 % 16 = x9 := by omega
      have e10 : z % 256 / 16 = x10 := by omega
      have e11 : z % 256 % 16 = x11 := by omega
      rw [e0, e1, e2, e3, e4, e5, e6, e7, e8, e9, e10, e11, c0, c1, c3, c4, c6, c7, c9, c10, c12, c13, c15, c16]
      simp only [List.range, List.range.loop, List.map, k2, k5, k8, k11, k14]
    · rw [if_neg hok] at h; simp at h
  · rw [if_neg hs] at h; simp at h

end Go.Proofs.Ytmdaaphjndjakaf.LAll

/- An address's bytes and text, the program's: they come to plain words. -/
namespace Go.Proofs.Ytmdaaphjndjakaf.LAll
open Go.RowKit Go.Proofs.Ytmdaaphjndjakaf.PAll Go.Proofs.YtmdaaphjndjakafW.PrintWords Go.Proofs.YtmdaaphjndjakafW.PrintLast Go.Proofs.YtmdaaphjndjakafW.PrintMore Go.Proofs.Ytmdaaphjndjakaf
set_option linter.unusedVariables false
set_option linter.unusedSimpArgs false

/-- The bytes of a number; none, if it is no address. -/
def bytes6 (n : Int) : ByteArray := if n < 281474976710656 then strOfNums (Gv.packB (Gv.bitsOf 48 n)) else ⟨#[]⟩
theorem ms_bytes (n : Int) (h0 : 0 ≤ n) (h1 : n ≤ 18446744073709551615) : mac_Addr_Bytes.f n = some (bytes6 n) := by
  unfold mac_Addr_Bytes.f bytes6
  have e : field_Pack.f (([(⟨48, n⟩ : S75)] : List S75)) = Gv.pack [(48, n)] := rfl
  rw [e]
  by_cases h : n < 281474976710656
  · rw [Gv.pack_six n h0 h, if_pos h]; rfl
  · rw [if_neg h]
    have p48 : (2 : Int) ^ (48 : Int).toNat = 281474976710656 := by decide
    have hu : Gv.isU64 [((48 : Int), n)] = true := by
      simp only [Gv.isU64, List.all_cons, List.all_nil, Bool.and_true, Bool.and_eq_true, decide_eq_true_eq]; unfold Gv.u64max; omega
    have hok : ¬ [((48 : Int), n)].all Gv.okPart = true := by
      simp only [List.all_cons, List.all_nil, Gv.okPart, p48, Bool.and_true, Bool.and_eq_true, Bool.or_eq_true, decide_eq_true_eq]
      omega
    unfold Gv.pack
    rw [if_pos ⟨hu, by simp⟩, if_neg hok]
    rfl
theorem digit_at : ∀ n : Nat, n < 16 → bt (⟨#[48, 49, 50, 51, 52, 53, 54, 55, 56, 57, 97, 98, 99, 100, 101, 102]⟩ : ByteArray) (n : Int) = hexc (n : Int) := by decide +kernel
theorem digit_hex (d : Int) (h0 : 0 ≤ d) (h1 : d ≤ 15) : bt (⟨#[48, 49, 50, 51, 52, 53, 54, 55, 56, 57, 97, 98, 99, 100, 101, 102]⟩ : ByteArray) d = hexc d := by
  obtain ⟨n, rfl⟩ := Int.eq_ofNat_of_zero_le h0
  exact digit_at n (by omega)
theorem and_15 (b : Int) (h0 : 0 ≤ b) (h1 : b ≤ 255) : Go.bits .and .u8 b 15 = b % 16 := by
  obtain ⟨n, rfl⟩ := Int.eq_ofNat_of_zero_le h0
  have : ∀ n : Nat, n < 256 → Go.bits .and .u8 (n : Int) 15 = (n : Int) % 16 := by decide +kernel
  exact this n (by omega)
def parts (l : List Int) : List ByteArray := l.map fun b => strOfNums (hex2 b)
theorem join_parts (l : List Int) : Lib.join ((parts l).map (·.data.toList)) [58] = (strOfNums (txt l)).data.toList := by
  have key : ∀ (l : List Int) (b : Int), Lib.joinTail [58] ((parts (b :: l)).map (·.data.toList)) = (58 : UInt8) :: (strOfNums (txt (b :: l))).data.toList := by
    intro l
    induction l with
    | nil =>
      intro b
      simp [Lib.joinTail, parts, txt]
    | cons c l ih =>
      intro b
      have e1 : txt (b :: c :: l) = hex2 b ++ 58 :: txt (c :: l) := rfl
      have h := ih c
      have e2 : Lib.joinTail [58] ((parts (b :: c :: l)).map (·.data.toList)) = ((58 : UInt8) :: (strOfNums (hex2 b)).data.toList) ++ Lib.joinTail [58] ((parts (c :: l)).map (·.data.toList)) := by
        simp [Lib.joinTail, parts]
      rw [e2, h, e1, Gv.strOfNums_append]
      simp [strOfNums]
  cases l with
  | nil => simp [parts, Lib.join_nil, txt, strOfNums]
  | cons b l =>
    have e : (parts (b :: l)).map (·.data.toList) = (strOfNums (hex2 b)).data.toList :: (parts l).map (·.data.toList) := rfl
    rw [e, Lib.join_cons]
    cases l with
    | nil => simp [Lib.joinTail, parts, txt]
    | cons c l =>
      have e1 : txt (b :: c :: l) = hex2 b ++ 58 :: txt (c :: l) := rfl
      rw [key, e1, Gv.strOfNums_append]
      simp [strOfNums]
theorem txt_length (l : List Int) : (txt l).length ≤ 3 * l.length := by
  induction l with
  | nil => simp [txt]
  | cons b l ih =>
    cases l with
    | nil => simp [txt, hex2]
    | cons c l =>
      have e1 : txt (b :: c :: l) = hex2 b ++ 58 :: txt (c :: l) := rfl
      rw [e1]
      simp only [List.length_append, List.length_cons, hex2, List.length_nil] at *
      omega
theorem join_own (l : List Int) (hl : l.length ≤ 1000) : strings_Join.f (parts l) (⟨#[58]⟩ : ByteArray) = some (strOfNums (txt l)) := by
  have ht := txt_length l
  unfold strings_Join.f
  have e : Lib.join ((parts l).map (·.data.toList)) (⟨#[58]⟩ : ByteArray).data.toList = (strOfNums (txt l)).data.toList := join_parts l
  have hz : (strOfNums (txt l)).data.toList.length = (txt l).length := by
    rw [Array.length_toList]
    exact strOfNums_size (txt l)
  rw [e, if_pos ⟨by rw [hz]; omega, by simp only [parts, List.length_map]; omega⟩]
theorem ms_loop (s : ByteArray) (hs : s.size ≤ 1000) (d : Nat) : ∀ i : Nat, s.size - i = d → i ≤ s.size → Ev (fun k => mac_Addr_String.l0 k (parts ((bytesOf s).take i)) s (s.size : Int) (i : Int)) (strOfNums (txt (bytesOf s))) := by
  have hl : (bytesOf s).length = s.size := bytesOf_length s
  induction d with
  | zero =>
    intro i hi hi2
    rw [List.take_of_length_le (by omega)]
    refine Ev.step (f := fun k => mac_Addr_String.l0 (k + 1) (parts (bytesOf s)) s (s.size : Int) (i : Int)) (fun k => rfl) ?_
    simp only [mac_Addr_String.l0, if_neg (show ¬ (i : Int) < (s.size : Int) from by omega), join_own (bytesOf s) (by omega), Option.bind_some]
    exact Ev.now _
  | succ d ih =>
    intro i hi hi2
    have h := ih (i + 1) (by omega) (by omega)
    have hr := bt_range s (i : Int)
    have hb : bt s (i : Int) = (bytesOf s)[i] := by rw [Gv.bt_get, Int.toNat_natCast, List.getD_eq_getElem?_getD, List.getElem?_eq_getElem (by omega)]; rfl
    rw [List.take_succ_eq_append_getElem (by omega), ← hb] at h
    refine Ev.step (f := fun k => mac_Addr_String.l0 (k + 1) (parts ((bytesOf s).take i)) s (s.size : Int) (i : Int)) (fun k => rfl) ?_
    have hpl : (parts ((bytesOf s).take i)).length < 8796093022208 := by simp only [parts, List.length_map, List.length_take]; omega
    simp only [mac_Addr_String.l0, and_15 _ hr.1 hr.2, if_pos (show (i : Int) < (s.size : Int) from by omega), if_pos (show (0 : Int) ≤ (i : Int) from by omega), if_pos (show 0 ≤ bt s (i : Int) / 16 from by omega), if_pos (show bt s (i : Int) / 16 < 16 from by omega), if_pos (show 0 ≤ bt s (i : Int) % 16 from by omega), if_pos (show bt s (i : Int) % 16 < 16 from by omega), if_pos hpl,
      digit_hex (bt s (i : Int) / 16) (by omega) (by omega), digit_hex (bt s (i : Int) % 16) (by omega) (by omega), mp_wrap (n := (i : Int) + 1) (by omega) (by omega)]
    have e : parts ((bytesOf s).take i) ++ [strOfNums [hexc (bt s (i : Int) / 16), hexc (bt s (i : Int) % 16)]] = parts ((bytesOf s).take i ++ [bt s (i : Int)]) := by
      unfold parts; rw [List.map_append]; rfl
    rw [e]
    exact h
/-- The program's text of any number. -/
def textOf (n : Int) : ByteArray := if n < 281474976710656 then macText n else ⟨#[]⟩
theorem bytes6_size (n : Int) : (bytes6 n).size ≤ 6 := by
  unfold bytes6
  by_cases h : n < 281474976710656
  · rw [if_pos h, strOfNums_size, Gv.packB_length, Gv.bitsOf_length]; decide
  · rw [if_neg h]; decide
theorem text6 (n : Int) : strOfNums (txt (bytesOf (bytes6 n))) = textOf n := by
  unfold bytes6 textOf
  by_cases h : n < 281474976710656
  · rw [if_pos h, if_pos h, Gv.bytesOf_str _ (Gv.packB_range (Gv.bitsOf_bits _ _))]; rfl
  · rw [if_neg h, if_neg h]; rfl
theorem ev_mstring (n : Int) (h0 : 0 ≤ n) (h1 : n ≤ 18446744073709551615) : Ev (fun k => mac_Addr_String.f k n) (textOf n) := by
  simp only [mac_Addr_String.f, ms_bytes n h0 h1, Option.bind_some]
  have := ms_loop (bytes6 n) (by have := bytes6_size n; omega) _ 0 rfl (by omega)
  rw [text6] at this
  exact this

end Go.Proofs.Ytmdaaphjndjakaf.LAll

/- Split, the program's, as printed: it comes to the plain word split. -/
namespace Go.Proofs.Ytmdaaphjndjakaf.LAll
open Go.RowKit Go.Proofs.Ytmdaaphjndjakaf.PAll Go.Proofs.YtmdaaphjndjakafW.PrintWords Go.Proofs.YtmdaaphjndjakafW.PrintLast Go.Proofs.YtmdaaphjndjakafW.PrintMore Go.Proofs.Ytmdaaphjndjakaf
set_option linter.unusedVariables false
set_option linter.unusedSimpArgs false

theorem sw_wrap {n : Int} (h0 : -9223372036854775808 ≤ n) (h1 : n ≤ 9223372036854775807) : wrap64 n = n := by unfold wrap64; omega
theorem sw_u64 {n : Int} (h0 : 0 ≤ n) (h1 : n ≤ 18446744073709551615) : IntKind.u64.wrap n = n := by simp [IntKind.wrap, IntKind.bits, IntKind.signed]; omega
theorem sw_rd {l : List Int} {i : Nat} (h : i < l.length) : rd l (i : Int) = l[i] := by unfold rd; simp [List.getD_eq_getElem?_getD, h]
theorem sw_take {l : List Int} {i : Nat} (h : i < l.length) : l.take (i + 1) = l.take i ++ [l[i]] := List.take_succ_eq_append_getElem h

theorem sum_snoc (l : List Int) (b : Int) : Gv.sumW (l ++ [b]) = Gv.sumW l + b := by unfold Gv.sumW; rw [List.foldl_append]; rfl
theorem sum_bound (l : List Int) (h : Gv.okW l = true) : 0 ≤ Gv.sumW l ∧ Gv.sumW l ≤ 64 * l.length ∧ (l.length : Int) ≤ Gv.sumW l := by
  have key : ∀ l : List Int, Gv.okW l = true → 0 ≤ Gv.sumW l ∧ Gv.sumW l ≤ 64 * l.length ∧ (l.length : Int) ≤ Gv.sumW l := by
    refine fun l => Gv.rev_ind (P := fun l => Gv.okW l = true → 0 ≤ Gv.sumW l ∧ Gv.sumW l ≤ 64 * l.length ∧ (l.length : Int) ≤ Gv.sumW l) (fun _ => by simp [Gv.sumW]) (fun l b ih h => ?_) l
    simp only [Gv.okW, List.all_append, Bool.and_eq_true, List.all_cons, List.all_nil, decide_eq_true_eq] at h
    have := ih (by simp only [Gv.okW]; exact h.1)
    rw [sum_snoc, List.length_append, List.length_singleton]
    omega
  exact key l h
theorem okW_take {l : List Int} (h : Gv.okW l = true) (i : Nat) : Gv.okW (l.take i) = true := by
  simp only [Gv.okW, List.all_eq_true] at *
  exact fun x hx => h x (List.mem_of_mem_take hx)
theorem okW_get {l : List Int} (h : Gv.okW l = true) {i : Nat} (hi : i < l.length) : 1 ≤ l[i] ∧ l[i] ≤ 64 := by
  simp only [Gv.okW, List.all_eq_true] at h
  have := h l[i] (List.getElem_mem hi)
  simpa using this

/-! ### the program's sum of widths -/
theorem may_f (x : Int) : field_may.f x = some (decide (1 ≤ x) && decide (x ≤ 64)) := by
  unfold field_may.f
  by_cases h : x ≥ 1
  · rw [if_pos h]; simp [h]
  · rw [if_neg h]; simp [h]

theorem ev_sum_loop (l : List Int) (hl : l.length ≤ 1000) (d : Nat) : ∀ i : Nat, l.length - i = d → i ≤ l.length → Gv.okW (l.take i) = true →
    Ev (fun k => field_sum.l0 k (Gv.sumW (l.take i)) l (l.length : Int) (i : Int)) (if Gv.okW l = true then Gv.sumW l else -1) := by
  induction d with
  | zero =>
    intro i hi hi2 hok
    rw [List.take_of_length_le (by omega)] at hok ⊢
    rw [if_pos hok]
    refine Ev.step (f := fun _ => some (Gv.sumW l)) (fun k => ?_) (Ev.now _)
    simp only [field_sum.l0]
    rw [if_neg (by omega)]
  | succ d ih =>
    intro i hi hi2 hok
    have hil : i < l.length := by omega
    have hb := sum_bound _ hok
    have hlt : ((l.take i).length : Int) ≤ i := by have := List.length_take_le i l; omega
    by_cases hm : 1 ≤ l[i] ∧ l[i] ≤ 64
    · have hokn : Gv.okW (l.take (i + 1)) = true := by
        rw [sw_take hil]; simp only [Gv.okW, List.all_append, Bool.and_eq_true]
        exact ⟨hok, by simp [hm.1, hm.2]⟩
      have h := ih (i + 1) (by omega) (by omega) hokn
      rw [sw_take hil, sum_snoc] at h
      refine Ev.step (fun k => ?_) h
      simp only [field_sum.l0]
      rw [if_pos (by omega), if_pos (by omega), if_pos (by omega), sw_rd hil, may_f]
      simp only [hm.1, hm.2, decide_true, Bool.and_self, Option.bind_some, if_true]
      rw [sw_wrap (by omega) (by omega), sw_wrap (by omega) (by omega)]
      rfl
    · have hbad : ¬ Gv.okW l = true := fun h => hm (okW_get h hil)
      rw [if_neg hbad]
      refine Ev.step (f := fun _ => some (-1)) (fun k => ?_) (Ev.now _)
      simp only [field_sum.l0]
      rw [if_pos (by omega), if_pos (by omega), if_pos (by omega), sw_rd hil, may_f]
      have : (decide (1 ≤ l[i]) && decide (l[i] ≤ 64)) = false := by
        rw [Bool.and_eq_false_iff]; simp only [decide_eq_false_iff_not]; omega
      rw [this]; simp

theorem ev_sum (l : List Int) (hl : l.length ≤ 1000) : Ev (fun k => field_sum.f k l) (if Gv.okW l = true then Gv.sumW l else -1) := by
  have h := ev_sum_loop l hl _ 0 rfl (by omega) (by simp [Gv.okW])
  exact h

/-! ### bits of a string -/
theorem sBits_get (s : ByteArray) (p : Nat) (h : p < 8 * s.size) : (Gv.sBits s)[p]'(by rw [Gv.sBits_length]; exact h) = bt s (p / 8 : Nat) / 2 ^ (7 - p % 8) % 2 := by
  have key : ∀ (l : List Int) (p : Nat) (h : p < 8 * l.length), (l.flatMap fun b => Gv.bitsOf 8 b)[p]? = some (l.getD (p / 8) 0 / 2 ^ (7 - p % 8) % 2) := by
    intro l
    induction l with
    | nil => intro p h; simp at h
    | cons b l ih =>
      intro p h
      rw [List.flatMap_cons]
      by_cases hp : p < 8
      · rw [List.getElem?_append_left (by rw [Gv.bitsOf_length]; exact hp), show p / 8 = 0 from by omega, show p % 8 = p from by omega]
        rw [List.getElem?_eq_getElem (by rw [Gv.bitsOf_length]; exact hp)]
        simp [Gv.bitsOf]
      · rw [List.getElem?_append_right (by rw [Gv.bitsOf_length]; omega), Gv.bitsOf_length, ih (p - 8) (by simp at h; omega), show (p - 8) / 8 = p / 8 - 1 from by omega, show (p - 8) % 8 = p % 8 from by omega]
        obtain ⟨q, hq⟩ : ∃ q, p / 8 = q + 1 := ⟨p / 8 - 1, by omega⟩
        rw [hq]; simp
  have h2 := key (bytesOf s) p (by rw [bytesOf_length]; exact h)
  have h3 : (bytesOf s).getD (p / 8) 0 = bt s (p / 8 : Nat) := by
    rw [← rd_bytesOf]; rfl
  rw [h3] at h2
  exact (List.getElem?_eq_some_iff.1 h2).2

theorem wraps_u8' (n : Int) (h₀ : 0 ≤ n) (h₁ : n < 2 ^ 8) : IntKind.u8.wrap n = n := wraps_u8 n h₀ h₁
theorem wraps_u64' (n : Int) (h₀ : 0 ≤ n) (h₁ : n < 2 ^ 64) : IntKind.u64.wrap n = n := sw_u64 h₀ (by omega)
theorem div2_range (v : Int) (m : Nat) (h0 : 0 ≤ v) (h1 : v ≤ 255) : 0 ≤ v / 2 ^ m ∧ v / 2 ^ m ≤ 255 :=
  ⟨Int.ediv_nonneg h0 (Int.le_of_lt (Int.pow_pos (by decide))), Int.le_trans (Int.ediv_le_self _ h0) h1⟩
theorem pow_le_63 {m : Nat} (h : m ≤ 63) : (2 : Int) ^ m ≤ 9223372036854775808 := by
  have h1 : (2 : Int) ^ m ≤ 2 ^ 63 := by
    have := Nat.pow_le_pow_right (show 0 < 2 by decide) h
    exact_mod_cast this
  exact Int.le_trans h1 (by decide)
theorem pow_le_64 {m : Nat} (h : m ≤ 64) : (2 : Int) ^ m ≤ 18446744073709551616 := by
  have h1 : (2 : Int) ^ m ≤ 2 ^ 64 := by
    have := Nat.pow_le_pow_right (show 0 < 2 by decide) h
    exact_mod_cast this
  exact Int.le_trans h1 (by decide)
/-- One bit of the program's Split. -/
theorem split_bit (x : Int) (b : Int) (m : Nat) (hm : m ≤ 7) (hx0 : 0 ≤ x) (hx1 : x < 9223372036854775808) (hb0 : 0 ≤ b) (hb1 : b ≤ 255) :
    Go.bits .or .u64 (IntKind.u64.wrap (x * 2)) (IntKind.u64.wrap (Go.bits .and .u8 (shr .u8 b (m : Int)) 1)) = x * 2 + b / 2 ^ m % 2 := by
  have e1 : shr .u8 b (m : Int) = b / 2 ^ m := by
    unfold shr
    rw [Int.toNat_natCast, Nat.min_eq_left (by simp [IntKind.bits]; omega)]
  have hr := div2_range b m hb0 hb1
  have e2 : Go.bits .and .u8 (b / 2 ^ m) 1 = b / 2 ^ m % 2 := bits_mask .u8 8 (by decide) wraps_u8 1 (by decide) _ hr.1 (by omega)
  rw [e1, e2, sw_u64 (by omega) (by omega), sw_u64 (by omega) (by omega)]
  exact bits_join .u64 64 (by decide) wraps_u64' 1 _ _ (by omega) (by omega) (by omega) (by omega) (by omega) (by omega)

theorem valOf_take_succ {l : List Int} {p : Nat} (h : p < l.length) : Gv.valOf (l.take (p + 1)) = Gv.valOf (l.take p) * 2 + l[p] := by rw [sw_take h, Gv.valOf_snoc]

/-- The inner loop: one part. -/
theorem ev_part (s : ByteArray) (hs : s.size ≤ 100000) (n : Int) (out ws : List Int) (i : Int) (at_ w : Nat) (hw : w ≤ 64) (ha : at_ + w ≤ 8 * s.size) (hout : out.length ≤ 1000) (r : List Int × ByteArray × Int)
    (hk : Ev (fun k => field_Split.l0 k s n (out ++ [Gv.valOf (((Gv.sBits s).drop at_).take w)]) ((at_ + w : Nat) : Int) ws (ws.length : Int) (wrap64 (i + 1))) r) (d : Nat) :
    ∀ j : Nat, w - j = d → j ≤ w → Ev (fun k => field_Split.l1 k s n out ((at_ + j : Nat) : Int) (Gv.valOf (((Gv.sBits s).drop at_).take j)) ws (ws.length : Int) i (w : Int) (j : Int)) r := by
  have hlen := Gv.sBits_length s
  induction d with
  | zero =>
    intro j hj hj2
    obtain rfl : j = w := by omega
    refine Ev.step (fun k => ?_) hk
    simp only [field_Split.l1]
    rw [if_neg (by omega), if_pos (by omega)]
  | succ d ih =>
    intro j hj hj2
    have h := ih (j + 1) (by omega) (by omega)
    have hjl : j < ((Gv.sBits s).drop at_).length := by rw [List.length_drop, hlen]; omega
    rw [valOf_take_succ hjl, List.getElem_drop, sBits_get s (at_ + j) (by omega)] at h
    have hbits : Gv.IsBits (((Gv.sBits s).drop at_).take j) := fun b hb => Gv.sBits_bits s b (List.mem_of_mem_drop (List.mem_of_mem_take hb))
    have hv := Gv.valOf_range hbits
    have hlj : (((Gv.sBits s).drop at_).take j).length = j := by rw [List.length_take]; omega
    rw [hlj] at hv
    have hp := pow_le_63 (show j ≤ 63 by omega)
    have hbt := bt_range s ((at_ + j) / 8 : Nat)
    refine Ev.step (fun k => ?_) h
    simp only [field_Split.l1]
    have t1 : wrap64 (Int.tdiv ((at_ + j : Nat) : Int) 8) = (((at_ + j) / 8 : Nat) : Int) := by
      rw [Int.tdiv_eq_ediv_of_nonneg (by omega), sw_wrap (by omega) (by omega)]; omega
    have t2 : wrap64 (7 - Int.tmod ((at_ + j : Nat) : Int) 8) = ((7 - (at_ + j) % 8 : Nat) : Int) := by
      rw [Int.tmod_eq_emod_of_nonneg (by omega), sw_wrap (by omega) (by omega)]; omega
    rw [if_pos (by omega), t1, if_pos (by omega), if_pos (by omega), t2, if_pos (by omega)]
    rw [split_bit _ _ (7 - (at_ + j) % 8) (by omega) hv.1 (by omega) hbt.1 hbt.2, sw_wrap (by omega) (by omega), sw_wrap (by omega) (by omega)]
    rfl

theorem vals_snoc (bits : List Int) (ws : List Int) (hok : Gv.okW ws = true) (w : Int) : Gv.vals bits (ws ++ [w]) = Gv.vals bits ws ++ [Gv.valOf ((bits.drop (Gv.sumW ws).toNat).take w.toNat)] := by
  have key : ∀ (ws bits : List Int) (a : Int), Gv.okW ws = true → Gv.vals bits (ws ++ [w]) = Gv.vals bits ws ++ [Gv.valOf ((bits.drop (Gv.sumW ws).toNat).take w.toNat)] := by
    intro ws
    induction ws with
    | nil => intro bits a _; simp [Gv.vals, Gv.sumW]
    | cons x ws ih =>
      intro bits a h
      simp only [Gv.okW, List.all_cons, Bool.and_eq_true, decide_eq_true_eq] at h
      have h2 := ih (bits.drop x.toNat) a (by simp only [Gv.okW]; exact h.2)
      have hb := sum_bound ws (by simp only [Gv.okW]; exact h.2)
      have hs : Gv.sumW (x :: ws) = x + Gv.sumW ws := by
        have : ∀ (l : List Int) (c : Int), l.foldl (· + ·) c = c + l.foldl (· + ·) 0 := by
          intro l
          induction l with
          | nil => intro c; simp
          | cons y l ih2 => intro c; rw [List.foldl_cons, ih2, List.foldl_cons, ih2 (0 + y)]; omega
        unfold Gv.sumW
        rw [List.foldl_cons, this]; omega
      simp only [List.cons_append, Gv.vals, h2]
      rw [List.drop_drop, hs, show (x + Gv.sumW ws).toNat = x.toNat + (Gv.sumW ws).toNat from by omega]
  exact key ws bits 0 hok

theorem vals_length (ws : List Int) (bits : List Int) : (Gv.vals bits ws).length = ws.length := by
  induction ws generalizing bits with
  | nil => rfl
  | cons x ws ih => simp [Gv.vals, ih]

theorem sum_take_le (l : List Int) (h : Gv.okW l = true) (i : Nat) (hi : i < l.length) : Gv.sumW (l.take i) + l[i] ≤ Gv.sumW l := by
  have key : ∀ d : Nat, ∀ j : Nat, l.length - j = d → j ≤ l.length → Gv.sumW (l.take j) ≤ Gv.sumW l := by
    intro d
    induction d with
    | zero => intro j hj hj2; rw [List.take_of_length_le (by omega)]; omega
    | succ d ih =>
      intro j hj hj2
      have h1 := ih (j + 1) (by omega) (by omega)
      have hj3 : j < l.length := by omega
      rw [sw_take hj3, sum_snoc] at h1
      have := okW_get h hj3
      omega
  have := key _ (i + 1) rfl (by omega)
  rwa [sw_take hi, sum_snoc] at this

theorem ev_split_loop (s : ByteArray) (hs : s.size ≤ 100000) (ws : List Int) (hl : ws.length ≤ 1000) (hok : Gv.okW ws = true) (h8 : Gv.sumW ws % 8 = 0) (hsz : Gv.sumW ws / 8 ≤ (s.size : Int)) (d : Nat) :
    ∀ i : Nat, ws.length - i = d → i ≤ ws.length →
    Ev (fun k => field_Split.l0 k s (Gv.sumW ws) (Gv.vals (Gv.sBits s) (ws.take i)) (Gv.sumW (ws.take i)) ws (ws.length : Int) (i : Int)) (Gv.vals (Gv.sBits s) ws, s.extract (Gv.sumW ws / 8).toNat s.size, 0) := by
  have hb := sum_bound ws hok
  have e1 : wrap64 (Int.tdiv (Gv.sumW ws) 8) = Gv.sumW ws / 8 := by rw [Int.tdiv_eq_ediv_of_nonneg hb.1, sw_wrap (by omega) (by omega)]
  induction d with
  | zero =>
    intro i hi hi2
    rw [List.take_of_length_le (by omega)]
    refine Ev.step (f := fun _ => some (Gv.vals (Gv.sBits s) ws, s.extract (Gv.sumW ws / 8).toNat s.size, 0)) (fun k => ?_) (Ev.now _)
    simp only [field_Split.l0]
    rw [if_neg (by omega), e1, if_pos (by omega), if_pos (by omega)]
  | succ d ih =>
    intro i hi hi2
    have hil : i < ws.length := by omega
    have h := ih (i + 1) (by omega) (by omega)
    have hwi := okW_get hok hil
    have hok2 := okW_take hok i
    have hb2 := sum_bound _ hok2
    have hle := sum_take_le ws hok i hil
    rw [sw_take hil, vals_snoc _ _ hok2, sum_snoc] at h
    obtain ⟨a, ha⟩ := Int.eq_ofNat_of_zero_le hb2.1
    obtain ⟨w, hw⟩ := Int.eq_ofNat_of_zero_le (show 0 ≤ ws[i] by omega)
    rw [hw, ha, Int.toNat_natCast, Int.toNat_natCast] at h
    have hp := ev_part s hs (Gv.sumW ws) (Gv.vals (Gv.sBits s) (ws.take i)) ws (i : Int) a w (by omega) (by omega) (by rw [vals_length, List.length_take]; omega) _ (by
      rw [sw_wrap (by omega) (by omega)]
      exact h) w 0 rfl (by omega)
    refine Ev.step (fun k => ?_) hp
    simp only [field_Split.l0]
    rw [if_pos (by omega), if_pos (by omega), if_pos (by omega), sw_rd hil, hw, ha]
    rfl

/-- The program's Split. -/
theorem ev_split (s : ByteArray) (hs : s.size ≤ 100000) (ws : List Int) (hl : ws.length ≤ 1000) : Ev (fun k => field_Split.f k s ws) (Gv.split s ws) := by
  have hsum := ev_sum ws hl
  simp only [field_Split.f]
  refine Ev.bind hsum ?_
  unfold Gv.split
  by_cases hok : Gv.okW ws = true
  · rw [if_pos hok, if_pos hok]
    have hb := sum_bound ws hok
    have e1 : wrap64 (Int.tdiv (Gv.sumW ws) 8) = Gv.sumW ws / 8 := by rw [Int.tdiv_eq_ediv_of_nonneg hb.1, sw_wrap (by omega) (by omega)]
    have e2 : Int.tmod (Gv.sumW ws) 8 = Gv.sumW ws % 8 := Int.tmod_eq_emod_of_nonneg hb.1
    by_cases h8 : Gv.sumW ws % 8 = 0
    · rw [if_pos h8]
      by_cases hz : Gv.sumW ws / 8 > (s.size : Int)
      · rw [if_pos hz]
        refine Ev.congr (fun k => ?_) (Ev.now _)
        rw [if_neg (by omega), e2, if_pos h8, e1, if_pos hz]
      · rw [if_neg hz]
        have h := ev_split_loop s hs ws hl hok h8 (by omega) _ 0 rfl (by omega)
        refine Ev.congr (fun k => ?_) h
        rw [if_neg (by omega), e2, if_pos h8, e1, if_neg hz]
        rfl
    · rw [if_neg h8]
      refine Ev.congr (fun k => ?_) (Ev.now _)
      rw [if_neg (by omega), e2, if_neg h8]
  · rw [if_neg hok, if_neg hok]
    refine Ev.congr (fun k => ?_) (Ev.now _)
    rw [if_pos (by decide)]

end Go.Proofs.Ytmdaaphjndjakaf.LAll

namespace Go.Proofs.Ytmdaaphjndjakaf.Pure
open Go.RowKit Go.Proofs.Ytmdaaphjndjakaf.PAll Go.Proofs.YtmdaaphjndjakafW.PrintWords Go.Proofs.YtmdaaphjndjakafW.PrintLast Go.Proofs.YtmdaaphjndjakafW.PrintMore Go.Proofs.Ytmdaaphjndjakaf Go.Proofs.Ytmdaaphjndjakaf.LAll
set_option linter.unusedVariables false
set_option linter.unusedSimpArgs false

theorem mb_awake : Ev (fun k => carousellaw02_Awake.f k) true :=
  Ev.of carousellaw02_Awake.mono (k := 60) (by decide +kernel)
theorem mb_of (n : Int) (h0 : 0 ≤ n) (h1 : n < 281474976710656) : Ev (fun k => mac_Of.f k (bytes6 n)) (n, 0) := by
  have hz : (bytes6 n).size = 6 := by unfold bytes6; rw [if_pos h1, strOfNums_size, Gv.packB_length, Gv.bitsOf_length]
  have h := ev_split (bytes6 n) (by omega) [48] (by simp)
  have e : Gv.split (bytes6 n) [48] = ([n], ⟨#[]⟩, 0) := by
    have e1 := Gv.split_one (bytes6 n) 6 (by decide) (by decide) (by omega)
    have e2 : (Gv.sBits (bytes6 n)).take (8 * 6) = Gv.bitsOf 48 n := by
      unfold bytes6; rw [if_pos h1, Gv.sBits_cons (Gv.bytesOf_str _ (Gv.packB_range (Gv.bitsOf_bits _ _))), Gv.packB_flat 6 _ (Gv.bitsOf_bits _ _) (Gv.bitsOf_length _ _), List.take_of_length_le (by rw [Gv.bitsOf_length]; exact Nat.le_refl _)]
    rw [e2, Gv.valOf_bitsOf, show (2 : Int) ^ 48 = 281474976710656 from by decide, Int.emod_eq_of_lt h0 h1, hz] at e1
    have e3 : (bytes6 n).extract 6 6 = ⟨#[]⟩ := by
      apply Gv.bytesOf_inj
      rw [Gv.bytesOf_extract, List.drop_of_length_le (by rw [List.length_take]; omega)]; rfl
    rw [e3] at e1
    exact e1
  rw [e] at h
  simp only [mac_Of.f]
  refine Ev.bind h (Ev.congr (fun k => ?_) (Ev.now _))
  have e0 : (⟨#[]⟩ : ByteArray).toList = [] := by rw [ByteArray.toList_eq]
  simp only []
  rw [if_pos trivial, if_pos e0, if_pos (by simp)]
  rfl
theorem mb_j0 (s : ByteArray) : Ev (fun k => carousellaw02_MacBack.j0 k s false) true := by
  refine Ev.step (f := fun k => carousellaw02_MacBack.j0 (k + 1) s false) (fun k => rfl) ?_
  simp only [carousellaw02_MacBack.j0, Bool.false_eq_true, if_false]
  refine Ev.bind (ev_parse s) ?_
  refine Ev.bind mb_awake ?_
  simp only [if_true]
  by_cases h : (macParse s).2 = 0
  · have ht := text_parse s h
    simp only [if_pos h]
    have hs := ev_mstring (macParse s).1 ht.2.2 (by omega)
    unfold textOf at hs
    rw [if_pos ht.2.1, ht.1] at hs
    refine Ev.bind hs ?_
    refine Ev.congr (fun k => ?_) (Ev.now true)
    rw [if_pos rfl]
    unfold mac_Addr_May.f
    simp; omega
  · simp only [if_neg h]
    exact Ev.now _

theorem MacBack : carousellaw02_MacBack.Pure := by
  intro n s w0 _
  have hn : 0 ≤ n ∧ n ≤ 18446744073709551615 := by
    have h' : IntKind.u64.min ≤ n ∧ n ≤ IntKind.u64.max := by simpa [Lit.wf] using w0
    exact h'
  have hgo : Ev (fun k => carousellaw02_MacBack.f k n s) true := by
    simp only [carousellaw02_MacBack.f]
    by_cases hz : (s.size : Int) > 200
    · simp only [if_pos hz]
      exact Ev.bind mb_awake (f := fun _ x => some x) (Ev.now _)
    · simp only [if_neg hz]
      rw [Int.tmod_eq_emod_of_nonneg hn.1]
      have m0 : 0 ≤ n % 281474976710656 := by omega
      have m1 : n % 281474976710656 < 281474976710656 := by omega
      generalize n % 281474976710656 = m at m0 m1
      simp only [ms_bytes m m0 (by omega), Option.bind_some]
      refine Ev.bind (mb_of m m0 m1) ?_
      have hst := ev_mstring m m0 (by omega)
      have hp := ev_parse (textOf m)
      have et : textOf m = macText m := by unfold textOf; rw [if_pos m1]
      rw [et] at hst hp
      rw [parse_text m m0 m1] at hp
      refine Ev.bind hst ?_
      refine Ev.bind hp ?_
      simp only [if_true]
      refine Ev.bind hst ?_
      rw [text_size]
      exact mb_j0 s
  exact hgo.rounds

end Go.Proofs.Ytmdaaphjndjakaf.Pure
