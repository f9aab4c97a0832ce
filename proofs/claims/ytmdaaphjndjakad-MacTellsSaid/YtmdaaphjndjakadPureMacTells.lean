/- The law MacTells holds: whether any number is an address, a group's, and its bytes and text, are the document's: for every input. -/
import Derived.Test.YtmdaaphjndjakadPAllx1
import Derived.Test.YtmdaaphjndjakadGvField
import Derived.Test.YtmdaaphjndjakadWMore
import Derived.Test.YtmdaaphjndjakadPAllx8
import Derived.Lib.Join
import Derived.Test.YtmdaaphjndjakadGvBit
import Derived.Test.YtmdaaphjndjakadPAllx6
import Derived.Test.YtmdaaphjndjakadPAllx7
import Derived.Test.YtmdaaphjndjakadPAllx9
-- merged out of the texts of this work that it leads to

/- Plain words on bits: the values of parts of a string's bits; how bits of numbers fall apart and go together. No program in sight. -/
namespace Go.Proofs.Ytmdaaphjndjakad.Gv
open Go.RowKit Go.Proofs.YtmdaaphjndjakadW.PrintWords
set_option linter.unusedVariables false

/-- The number of bits, the highest first. -/
def valOf (l : List Int) : Int := l.foldl (fun v b => v * 2 + b) 0
/-- All bits of a string. -/
def sBits (s : ByteArray) : List Int := (bytesOf s).flatMap fun b => bitsOf 8 b
def sumW (ws : List Int) : Int := ws.foldl (· + ·) 0
def okW (ws : List Int) : Bool := ws.all fun w => decide (1 ≤ w) && decide (w ≤ 64)
/-- The values of parts of such widths. -/
def vals : List Int → List Int → List Int
  | _, [] => []
  | bits, w :: ws => valOf (bits.take w.toNat) :: vals (bits.drop w.toNat) ws
/-- What Split comes to. -/
def split (s : ByteArray) (ws : List Int) : List Int × ByteArray × Int :=
  if okW ws = true then
    if sumW ws % 8 = 0 then
      if sumW ws / 8 > (s.size : Int) then ([], ⟨#[]⟩, 1) else (vals (sBits s) ws, s.extract (sumW ws / 8).toNat s.size, 0)
    else ([], ⟨#[]⟩, 3)
  else ([], ⟨#[]⟩, 4)

theorem foldl_val (l : List Int) (a : Int) : l.foldl (fun v b => v * 2 + b) a = a * 2 ^ l.length + valOf l := by
  induction l generalizing a with
  | nil => simp [valOf]
  | cons b l ih =>
    have e : valOf (b :: l) = b * 2 ^ l.length + valOf l := by
      show l.foldl (fun v b => v * 2 + b) (0 * 2 + b) = _
      rw [ih]; simp
    rw [List.foldl_cons, ih, e, List.length_cons, Int.pow_succ, Int.add_mul, Int.mul_assoc, Int.mul_comm 2 (2 ^ l.length), Int.add_assoc]
/-- From behind. -/
theorem rev_ind {P : List Int → Prop} (h0 : P []) (h1 : ∀ l b, P l → P (l ++ [b])) (l : List Int) : P l := by
  have key : ∀ n : Nat, ∀ l : List Int, l.length = n → P l := by
    intro n
    induction n with
    | zero => intro l hl; rw [List.eq_nil_of_length_eq_zero hl]; exact h0
    | succ n ih =>
      intro l hl
      have hne : l ≠ [] := fun e => by rw [e] at hl; simp at hl
      rw [← List.dropLast_concat_getLast hne]
      exact h1 _ _ (ih _ (by simp [hl]))
  exact key _ l rfl
theorem valOf_nil : valOf [] = 0 := rfl
theorem valOf_append (l m : List Int) : valOf (l ++ m) = valOf l * 2 ^ m.length + valOf m := by
  unfold valOf
  rw [List.foldl_append, foldl_val]
  rfl
theorem valOf_snoc (l : List Int) (b : Int) : valOf (l ++ [b]) = valOf l * 2 + b := by unfold valOf; rw [List.foldl_append]; rfl
theorem valOf_range {l : List Int} : IsBits l → 0 ≤ valOf l ∧ valOf l < 2 ^ l.length := by
  refine rev_ind (P := fun l => IsBits l → 0 ≤ valOf l ∧ valOf l < 2 ^ l.length) (fun _ => by simp [valOf]) (fun l b ih h => ?_) l
  have h1 := ih (fun x hx => h x (by simp [hx]))
  have h2 := h b (by simp)
  rw [valOf_snoc, List.length_append, List.length_singleton, Int.pow_succ]
  omega
theorem bitsOf_succ (n : Nat) (v : Int) : bitsOf (n + 1) v = bitsOf n (v / 2) ++ [v % 2] := by
  simp only [bitsOf]
  rw [List.range_succ, List.map_append]
  congr 1
  · apply List.map_congr_left
    intro i hi
    simp only [List.mem_range] at hi
    rw [show n + 1 - 1 - i = (n - 1 - i) + 1 from by omega, Int.pow_succ, Int.mul_comm, ← Int.ediv_ediv_of_nonneg (by decide)]
  · simp
theorem bitsOf_zero (v : Int) : bitsOf 0 v = [] := rfl
theorem bitsOf_add (m n : Nat) (v : Int) : bitsOf (m + n) v = bitsOf m (v / 2 ^ n) ++ bitsOf n v := by
  induction n generalizing v with
  | zero => simp [bitsOf_zero]
  | succ n ih =>
    rw [← Nat.add_assoc, bitsOf_succ, ih, bitsOf_succ n, List.append_assoc, Int.ediv_ediv_of_nonneg (by decide), Int.pow_succ, Int.mul_comm]
theorem valOf_bitsOf (n : Nat) (v : Int) : valOf (bitsOf n v) = v % 2 ^ n := by
  induction n generalizing v with
  | zero => simp [bitsOf_zero, valOf_nil]
  | succ n ih =>
    rw [bitsOf_succ, valOf_snoc, ih, Int.pow_succ]
    have hp : (0 : Int) < 2 ^ n := Int.pow_pos (by decide)
    generalize (2 : Int) ^ n = q at *
    have h3 : v / (q * 2) = v / 2 / q := by rw [Int.mul_comm, Int.ediv_ediv_of_nonneg (by decide)]
    rw [Int.emod_def v (q * 2), Int.emod_def (v / 2) q, h3, Int.mul_comm q 2, Int.mul_assoc 2 q]
    generalize q * (v / 2 / q) = z
    omega
/-- A number's bits and back: the bits of what bits tell. -/
theorem bitsOf_valOf {l : List Int} : IsBits l → bitsOf l.length (valOf l) = l := by
  refine rev_ind (P := fun l => IsBits l → bitsOf l.length (valOf l) = l) (fun _ => rfl) (fun l b ih h => ?_) l
  have h1 := ih (fun x hx => h x (by simp [hx]))
  have h2 := h b (by simp)
  rw [List.length_append, List.length_singleton, bitsOf_succ, valOf_snoc]
  have e1 : (valOf l * 2 + b) / 2 = valOf l := by omega
  have e2 : (valOf l * 2 + b) % 2 = b := by omega
  rw [e1, e2, h1]
/-- Only the low bits count. -/
theorem bitsOf_mod (n : Nat) (v : Int) : bitsOf n (v % 2 ^ n) = bitsOf n v := by
  have := bitsOf_valOf (bitsOf_bits n v)
  rwa [bitsOf_length, valOf_bitsOf] at this
theorem byteVal_bits (b : Int) (l : List Int) : byteVal (bitsOf 8 b ++ l) = b % 256 := by
  have h := valOf_bitsOf 8 b
  have e : (2 : Int) ^ 8 = 256 := by decide
  rw [e] at h
  rw [← h]
  simp only [bitsOf, byteVal, valOf, List.range, List.range.loop, List.map, List.foldl, List.cons_append, List.getD_cons_zero, List.getD_cons_succ]
  omega
theorem packB_nil : packB [] = [] := rfl
theorem packB_byte (b : Int) (l : List Int) : packB (bitsOf 8 b ++ l) = b % 256 :: packB l := by
  have hl : (bitsOf 8 b ++ l).length = l.length + 8 := by rw [List.length_append, bitsOf_length]; omega
  unfold packB
  rw [hl, show (l.length + 8 + 7) / 8 = (l.length + 7) / 8 + 1 from by omega, List.range_succ_eq_map, List.map_cons, List.map_map]
  rw [Nat.mul_zero, List.drop_zero, byteVal_bits]
  refine congrArg (b % 256 :: ·) (List.map_congr_left fun j _ => ?_)
  show byteVal ((bitsOf 8 b ++ l).drop (8 * (j + 1))) = byteVal (l.drop (8 * j))
  rw [List.drop_append, bitsOf_length, List.drop_of_length_le (by rw [bitsOf_length]; omega), List.nil_append, show 8 * (j + 1) - 8 = 8 * j from by omega]
/-- Whole bytes: the bytes of a number's bits. -/
theorem packB_bytes (l : List Int) (hb : ∀ b ∈ l, 0 ≤ b ∧ b ≤ 255) (m : List Int) : packB ((l.flatMap fun b => bitsOf 8 b) ++ m) = l ++ packB m := by
  induction l with
  | nil => rfl
  | cons b l ih =>
    have h := hb b (by simp)
    rw [List.flatMap_cons, List.append_assoc, packB_byte, ih (fun x hx => hb x (by simp [hx]))]
    rw [List.cons_append, Int.emod_eq_of_lt h.1 (by omega)]
theorem bytesOf_range (s : ByteArray) : ∀ b ∈ bytesOf s, 0 ≤ b ∧ b ≤ 255 := by
  intro b hb
  simp only [bytesOf, List.mem_map] at hb
  obtain ⟨u, _, rfl⟩ := hb
  have := u.toNat_lt
  omega
theorem sBits_length (s : ByteArray) : (sBits s).length = 8 * s.size := by
  unfold sBits
  have : ∀ l : List Int, (l.flatMap fun b => bitsOf 8 b).length = 8 * l.length := by
    intro l
    induction l with
    | nil => rfl
    | cons b l ih => rw [List.flatMap_cons, List.length_append, ih, bitsOf_length, List.length_cons]; omega
  rw [this, bytesOf_length]
theorem sBits_bits (s : ByteArray) : IsBits (sBits s) := by
  intro b hb
  simp only [sBits, List.mem_flatMap] at hb
  obtain ⟨p, _, hb⟩ := hb
  exact bitsOf_bits _ _ b hb
theorem strOfNums_bytesOf (s : ByteArray) : strOfNums (bytesOf s) = s := by
  unfold strOfNums bytesOf
  apply ByteArray.ext
  simp [Function.comp_def]
theorem packB_sBits (s : ByteArray) : packB (sBits s) = bytesOf s := by
  have := packB_bytes (bytesOf s) (bytesOf_range s) []
  rw [List.append_nil, packB_nil, List.append_nil] at this
  exact this

end Go.Proofs.Ytmdaaphjndjakad.Gv

/- Plain words on strings of bytes as lists of numbers. No program in sight. -/
namespace Go.Proofs.Ytmdaaphjndjakad.Gv
open Go.RowKit Go.Proofs.YtmdaaphjndjakadW.PrintWords
set_option linter.unusedVariables false

theorem bytesOf_inj {s t : ByteArray} (h : bytesOf s = bytesOf t) : s = t := by rw [← strOfNums_bytesOf s, ← strOfNums_bytesOf t, h]
theorem bytesOf_str (l : List Int) (h : ∀ b ∈ l, 0 ≤ b ∧ b ≤ 255) : bytesOf (strOfNums l) = l := by
  unfold bytesOf strOfNums
  simp only [List.map_map]
  have : ∀ b ∈ l, ((fun b : UInt8 => (b.toNat : Int)) ∘ fun n : Int => UInt8.ofNat n.toNat) b = id b := by
    intro b hb
    have := h b hb
    simp only [Function.comp, id]
    have e : (UInt8.ofNat b.toNat).toNat = b.toNat := by
      rw [UInt8.toNat_ofNat']
      omega
    rw [e]; omega
  rw [List.map_congr_left this, List.map_id]
theorem bytesOf_append (s t : ByteArray) : bytesOf (s ++ t) = bytesOf s ++ bytesOf t := by
  unfold bytesOf
  simp
theorem bytesOf_empty : bytesOf (⟨#[]⟩ : ByteArray) = [] := rfl
theorem bytesOf_extract (s : ByteArray) (a b : Nat) : bytesOf (s.extract a b) = ((bytesOf s).take b).drop a := by
  unfold bytesOf
  rw [← List.map_take, ← List.map_drop]
  congr 1
  simp [ByteArray.extract, ByteArray.copySlice, List.drop_take]
theorem bt_get (s : ByteArray) (i : Int) : bt s i = (bytesOf s).getD i.toNat 0 := (rd_bytesOf s i).symm
/-- A string's first bytes by name. -/
theorem bytesOf_head (s : ByteArray) (m : Nat) (h : m ≤ s.size) : bytesOf s = ((List.range m).map fun i => bt s (i : Nat)) ++ (bytesOf s).drop m := by
  have e : (List.range m).map (fun i => bt s ((i : Nat) : Int)) = (bytesOf s).take m := by
    apply List.ext_getElem
    · simp [bytesOf_length]; omega
    · intro i h1 h2
      have hi : i < (bytesOf s).length := by rw [bytesOf_length]; simp at h1; omega
      simp only [List.getElem_map, List.getElem_range, List.getElem_take]
      rw [bt_get, Int.toNat_natCast, List.getD_eq_getElem?_getD, List.getElem?_eq_getElem hi]
      rfl
  rw [e, List.take_append_drop]
theorem sBits_cons {s : ByteArray} {l : List Int} (h : bytesOf s = l) : sBits s = l.flatMap fun b => bitsOf 8 b := by unfold sBits; rw [h]
theorem flat_cons (b : Int) (l : List Int) : ((b :: l).flatMap fun b => bitsOf 8 b) = bitsOf 8 b ++ l.flatMap fun b => bitsOf 8 b := rfl
theorem vals_cons (w : Nat) (v : Int) (rest : List Int) (ws : List Int) : vals (bitsOf w v ++ rest) ((w : Int) :: ws) = v % 2 ^ w :: vals rest ws := by
  simp only [vals, Int.toNat_natCast]
  rw [List.take_append_of_le_length (by rw [bitsOf_length]; exact Nat.le_refl _), List.take_of_length_le (by rw [bitsOf_length]; exact Nat.le_refl _), valOf_bitsOf, List.drop_append_of_le_length (by rw [bitsOf_length]; exact Nat.le_refl _), List.drop_of_length_le (by rw [bitsOf_length]; exact Nat.le_refl _), List.nil_append]
theorem vals_none (l : List Int) : vals l [] = [] := rfl
/-- Two numbers behind each other. -/
theorem bitsOf_join (m n : Nat) (a b : Int) (h0 : 0 ≤ b) (h1 : b < 2 ^ n) : bitsOf m a ++ bitsOf n b = bitsOf (m + n) (a * 2 ^ n + b) := by
  have hp : (0 : Int) < 2 ^ n := Int.pow_pos (by decide)
  rw [bitsOf_add]
  have e1 : (a * 2 ^ n + b) / 2 ^ n = a := by
    rw [Int.add_comm, Int.add_mul_ediv_right _ _ (Int.ne_of_gt hp), Int.ediv_eq_zero_of_lt h0 h1]; omega
  have e2 : bitsOf n (a * 2 ^ n + b) = bitsOf n b := by
    rw [← bitsOf_mod n (a * 2 ^ n + b), Int.add_comm, Int.add_mul_emod_self_right, bitsOf_mod]
  rw [e1, e2]
theorem bitsOf_8 (v : Int) (w : Nat) : bitsOf (w + 8) v = bitsOf w (v / 256) ++ bitsOf 8 v := by
  rw [bitsOf_add]; rfl
theorem packB_last (b : Int) : packB (bitsOf 8 b) = [b % 256] := by
  have := packB_byte b []
  rwa [List.append_nil] at this
theorem strOfNums_append (l m : List Int) : strOfNums (l ++ m) = strOfNums l ++ strOfNums m := by
  unfold strOfNums
  apply ByteArray.ext
  simp
theorem size_bytesOf (s : ByteArray) : s.size = (bytesOf s).length := (bytesOf_length s).symm

end Go.Proofs.Ytmdaaphjndjakad.Gv

/- Addresses out of texts: the program's Parse and the document's come to one plain word. -/
namespace Go.Proofs.Ytmdaaphjndjakad.LAll
open Go.RowKit Go.Proofs.Ytmdaaphjndjakad.PAll Go.Proofs.YtmdaaphjndjakadW.PrintWords Go.Proofs.YtmdaaphjndjakadW.PrintLast Go.Proofs.YtmdaaphjndjakadW.PrintMore Go.Proofs.Ytmdaaphjndjakad
set_option linter.unusedVariables false
set_option linter.unusedSimpArgs false

theorem mp_wrap {n : Int} (h0 : -9223372036854775808 ≤ n) (h1 : n ≤ 9223372036854775807) : wrap64 n = n := by unfold wrap64; omega
theorem mp_u64 {n : Int} (h0 : 0 ≤ n) (h1 : n ≤ 18446744073709551615) : IntKind.u64.wrap n = n := by simp [IntKind.wrap, IntKind.bits, IntKind.signed]; omega
theorem mp_wraps (n : Int) (h₀ : 0 ≤ n) (h₁ : n < 2 ^ 64) : IntKind.u64.wrap n = n := mp_u64 h₀ (by omega)

/-- A digit's value; -1: it is none. -/
def dig (c : Int) : Int := if 48 ≤ c ∧ c ≤ 57 then c - 48 else if 97 ≤ c ∧ c ≤ 102 then c - 87 else -1
theorem dig_range (c : Int) : -1 ≤ dig c ∧ dig c ≤ 15 := by unfold dig; split <;> (try split) <;> omega
theorem index_all : ∀ n : Nat, n < 256 → Lib.indexByte (⟨#[48, 49, 50, 51, 52, 53, 54, 55, 56, 57, 97, 98, 99, 100, 101, 102]⟩ : ByteArray).data.toList n.toUInt8 = dig (n : Int) := by decide +kernel
theorem index_dig (c : Int) (h0 : 0 ≤ c) (h1 : c ≤ 255) : strings_IndexByte.f (⟨#[48, 49, 50, 51, 52, 53, 54, 55, 56, 57, 97, 98, 99, 100, 101, 102]⟩ : ByteArray) c = some (dig c) := by
  obtain ⟨n, rfl⟩ := Int.eq_ofNat_of_zero_le h0
  unfold strings_IndexByte.f
  rw [Int.toNat_natCast, index_all n (by omega)]

/-- Is what stands at place i as it should be? -/
def okAt (s : ByteArray) (i : Nat) : Bool := if i % 3 = 2 then bt s (i : Nat) == 58 else decide (0 ≤ dig (bt s (i : Nat)))
def okTo (s : ByteArray) : Nat → Bool
  | 0 => true
  | i + 1 => okTo s i && okAt s i
def valTo (s : ByteArray) : Nat → Int
  | 0 => 0
  | i + 1 => if i % 3 = 2 then valTo s i else valTo s i * 16 + dig (bt s (i : Nat))
/-- The address of a text. -/
def macParse (s : ByteArray) : Int × Int := if s.size = 17 then (if okTo s 17 = true then (valTo s 17, 0) else (0, 3)) else (0, 3)

theorem okTo_false (s : ByteArray) (i d : Nat) (h : okTo s i = false) : okTo s (i + d) = false := by
  induction d with
  | zero => exact h
  | succ d ih => show (okTo s (i + d) && _) = false; rw [ih]; rfl
theorem valTo_range (s : ByteArray) : ∀ i : Nat, okTo s i = true → 0 ≤ valTo s i ∧ valTo s i < 16 ^ (i - i / 3) := by
  intro i
  induction i with
  | zero => intro _; simp [valTo]
  | succ i ih =>
    intro h
    simp only [okTo, Bool.and_eq_true] at h
    have h1 := ih h.1
    simp only [valTo]
    by_cases h3 : i % 3 = 2
    · rw [if_pos h3, show i + 1 - (i + 1) / 3 = i - i / 3 from by omega]; exact h1
    · have hd := h.2
      simp only [okAt, if_neg h3, decide_eq_true_eq] at hd
      have := dig_range (bt s (i : Nat))
      rw [if_neg h3, show i + 1 - (i + 1) / 3 = (i - i / 3) + 1 from by omega, Int.pow_succ]
      omega
theorem pow16 {m : Nat} (h : m ≤ 12) : (16 : Int) ^ m ≤ 16 ^ 12 := by
  have := Nat.pow_le_pow_right (show 0 < 16 by decide) h
  exact_mod_cast this
theorem valTo_small (s : ByteArray) (i : Nat) (hi : i ≤ 17) (h : okTo s i = true) : 0 ≤ valTo s i ∧ valTo s i < 281474976710656 := by
  have := valTo_range s i h
  have h2 := pow16 (m := i - i / 3) (by omega)
  have h3 : (16 : Int) ^ 12 = 281474976710656 := by decide
  omega

theorem ev_parse_loop (s : ByteArray) (hs : s.size = 17) (d : Nat) : ∀ i : Nat, 17 - i = d → i ≤ 17 → okTo s i = true → Ev (fun k => mac_Parse.l0 k s (valTo s i) 17 (i : Int)) (macParse s) := by
  unfold macParse
  rw [if_pos hs]
  induction d with
  | zero =>
    intro i hi hi2 hok
    obtain rfl : i = 17 := by omega
    rw [if_pos hok]
    refine Ev.step (f := fun _ => some (valTo s 17, 0)) (fun k => ?_) (Ev.now _)
    simp only [mac_Parse.l0]
    rw [if_neg (by omega)]
  | succ d ih =>
    intro i hi hi2 hok
    have hb := bt_range s (i : Nat)
    have hv := valTo_small s i (by omega) hok
    have hm : Int.tmod (i : Int) 3 = ((i % 3 : Nat) : Int) := by rw [Int.tmod_eq_emod_of_nonneg (by omega)]; omega
    have e1 : wrap64 ((i : Int) + 1) = ((i + 1 : Nat) : Int) := mp_wrap (by omega) (by omega)
    have hfail : okAt s i = false → okTo s 17 = false := by
      intro h
      have := okTo_false s (i + 1) (17 - (i + 1)) (by simp [okTo, h])
      rwa [show i + 1 + (17 - (i + 1)) = 17 from by omega] at this
    have start : ∀ (b : Bool) r, (if i % 3 = 2 then bt s (i : Nat) == 58 else false) = b → Ev (fun k => mac_Parse.j1 k s (valTo s i) (i : Int) (dig (bt s (i : Nat))) 17 (i : Int) b) r → Ev (fun k => mac_Parse.l0 k s (valTo s i) 17 (i : Int)) r := by
      intro b r hbb h
      refine Ev.step (fun k => ?_) h
      simp only [mac_Parse.l0]
      rw [if_pos (by omega), if_pos (by omega), if_pos (by omega), index_dig _ hb.1 hb.2, hm]
      simp only [Option.bind_some]
      by_cases h3 : i % 3 = 2
      · rw [if_pos h3] at hbb
        rw [if_pos (by omega), hbb]
      · rw [if_neg h3] at hbb
        rw [if_neg (by omega), hbb]
    by_cases h3 : i % 3 = 2
    · by_cases hc : bt s (i : Nat) = 58
      · have hokn : okTo s (i + 1) = true := by simp [okTo, hok, okAt, h3, hc]
        have h := ih (i + 1) (by omega) (by omega) hokn
        have ev : valTo s (i + 1) = valTo s i := by simp [valTo, h3]
        rw [ev] at h
        refine start true _ (by simp [h3, hc]) (Ev.step (fun k => ?_) h)
        simp only [mac_Parse.j1]
        rw [if_pos trivial, e1]
      · rw [if_neg (by rw [hfail (by simp [okAt, h3, hc])]; simp)]
        refine start false _ (by simp [h3, hc]) (Ev.step (f := fun _ => some (0, 3)) (fun k => ?_) (Ev.now _))
        simp only [mac_Parse.j1]
        rw [if_neg (by simp), hm, if_neg (by omega)]
    · by_cases hc : 0 ≤ dig (bt s (i : Nat))
      · have hokn : okTo s (i + 1) = true := by simp [okTo, hok, okAt, h3, hc]
        have h := ih (i + 1) (by omega) (by omega) hokn
        have ev : valTo s (i + 1) = valTo s i * 16 + dig (bt s (i : Nat)) := by simp [valTo, h3]
        rw [ev] at h
        have hd := dig_range (bt s (i : Nat))
        have hj : Go.bits .or .u64 (IntKind.u64.wrap (valTo s i * 16)) (IntKind.u64.wrap (dig (bt s (i : Nat)))) = valTo s i * 16 + dig (bt s (i : Nat)) := by
          rw [mp_u64 (by omega) (by omega), mp_u64 (by omega) (by omega)]
          have p4 : (2 : Int) ^ 4 = 16 := by decide
          exact bits_join .u64 64 (by decide) mp_wraps 4 _ _ (by omega) (by omega) (by omega) (by omega) (by omega) (by omega)
        refine start false _ (by simp [h3]) (Ev.step (fun k => ?_) h)
        simp only [mac_Parse.j1]
        rw [if_neg (by simp), hm, if_pos (by omega), if_pos hc, hj, e1]
      · rw [if_neg (by rw [hfail (by simp [okAt, h3]; omega)]; simp)]
        refine start false _ (by simp [h3]) (Ev.step (f := fun _ => some (0, 3)) (fun k => ?_) (Ev.now _))
        simp only [mac_Parse.j1]
        rw [if_neg (by simp), hm, if_pos (by omega), if_neg hc]

/-- The program's Parse. -/
theorem ev_parse (s : ByteArray) : Ev (fun k => mac_Parse.f k s) (macParse s) := by
  by_cases hs : s.size = 17
  · have h := ev_parse_loop s hs _ 0 rfl (by omega) rfl
    refine Ev.congr (fun k => ?_) h
    unfold mac_Parse.f
    rw [if_pos (by omega), hs]
    rfl
  · refine Ev.congr (f := fun _ => some (macParse s)) (fun k => ?_) (Ev.now _)
    unfold mac_Parse.f macParse
    rw [if_neg (by omega), if_neg hs]

end Go.Proofs.Ytmdaaphjndjakad.LAll

/- Plain words: packed bits split, and split bits packed. No program in sight. -/
namespace Go.Proofs.Ytmdaaphjndjakad.Gv
open Go.RowKit Go.Proofs.YtmdaaphjndjakadW.PrintWords
set_option linter.unusedVariables false

theorem flat_take (n : Nat) : ∀ l : List Int, (l.flatMap fun b => bitsOf 8 b).take (8 * n) = (l.take n).flatMap fun b => bitsOf 8 b := by
  induction n with
  | zero => intro l; simp
  | succ n ih =>
    intro l
    cases l with
    | nil => simp
    | cons b l =>
      rw [List.flatMap_cons, List.take_succ_cons, List.flatMap_cons, List.take_append, bitsOf_length, List.take_of_length_le (by rw [bitsOf_length]; omega), show 8 * (n + 1) - 8 = 8 * n from by omega, ih]
theorem packB_flat (n : Nat) : ∀ bits : List Int, IsBits bits → bits.length = 8 * n → ((packB bits).flatMap fun b => bitsOf 8 b) = bits := by
  induction n with
  | zero =>
    intro bits h hl
    have e : bits = [] := List.eq_nil_of_length_eq_zero (by omega)
    rw [e]; rfl
  | succ n ih =>
    intro bits h hl
    have h8 : bitsOf 8 (valOf (bits.take 8)) = bits.take 8 := by
      have := bitsOf_valOf (l := bits.take 8) (fun b hb => h b (List.mem_of_mem_take hb))
      rwa [List.length_take, show min 8 bits.length = 8 from by omega] at this
    have e : bits = bitsOf 8 (valOf (bits.take 8)) ++ bits.drop 8 := by rw [h8]; exact (List.take_append_drop 8 bits).symm
    have hd := ih (bits.drop 8) (h.drop 8) (by rw [List.length_drop]; omega)
    generalize valOf (bits.take 8) = v at e
    generalize bits.drop 8 = m at e hd
    subst e
    have e2 := bitsOf_mod 8 v
    rw [show (2 : Int) ^ 8 = 256 from by decide] at e2
    rw [packB_byte, List.flatMap_cons, hd, e2]
/-- Whole bytes ahead: their bytes come first. -/
theorem packB_whole (n : Nat) : ∀ bits m : List Int, IsBits bits → bits.length = 8 * n → packB (bits ++ m) = packB bits ++ packB m := by
  intro bits m h hl
  have hr := packB_flat n bits h hl
  have h2 := packB_bytes (packB bits) (packB_range h) m
  rwa [hr] at h2
theorem foldl_sum (l : List Int) (a : Int) : l.foldl (· + ·) a = a + l.foldl (· + ·) 0 := by
  induction l generalizing a with
  | nil => simp
  | cons b l ih => rw [List.foldl_cons, List.foldl_cons, ih, ih (0 + b)]; omega
theorem sumW_cons (w : Int) (ws : List Int) : sumW (w :: ws) = w + sumW ws := by
  unfold sumW
  rw [List.foldl_cons, foldl_sum]; omega
theorem allBits_cons (p : Int × Int) (l : List (Int × Int)) : allBits (p :: l) = bitsOf p.1.toNat p.2 ++ allBits l := rfl
theorem bits_all (l : List (Int × Int)) : IsBits (allBits l) := by
  intro b hb
  simp only [allBits, List.mem_flatMap] at hb
  obtain ⟨p, _, hb⟩ := hb
  exact bitsOf_bits _ _ b hb
theorem okPart_w {p : Int × Int} (h : okPart p = true) : 1 ≤ p.1 ∧ p.1 ≤ 64 := by
  simp only [okPart, Bool.and_eq_true, decide_eq_true_eq] at h
  exact h.1
theorem okW_parts (l : List (Int × Int)) (h : l.all okPart = true) : okW (l.map (·.1)) = true := by
  simp only [okW, List.all_eq_true, List.mem_map] at *
  rintro x ⟨p, hp, rfl⟩
  have := okPart_w (h p hp)
  simp [this.1, this.2]
theorem sum_parts (l : List (Int × Int)) (h : l.all okPart = true) : sumW (l.map (·.1)) = ((allBits l).length : Int) := by
  induction l with
  | nil => rfl
  | cons p l ih =>
    rw [List.all_cons, Bool.and_eq_true] at h
    have := okPart_w h.1
    rw [List.map_cons, sumW_cons, ih h.2, allBits_cons, List.length_append, bitsOf_length]
    omega
theorem part_mod {p : Int × Int} (h : okPart p = true) (h0 : 0 ≤ p.2) (h1 : p.2 ≤ u64max) : p.2 % 2 ^ p.1.toNat = p.2 := by
  have hw := okPart_w h
  simp only [okPart, Bool.and_eq_true, Bool.or_eq_true, decide_eq_true_eq] at h
  have hp : (0 : Int) < 2 ^ p.1.toNat := Int.pow_pos (by decide)
  rcases h.2 with h2 | h2
  · have e : p.1.toNat = 64 := by omega
    rw [e, show (2 : Int) ^ 64 = 18446744073709551616 from by decide]
    unfold u64max at h1
    omega
  · rw [Int.emod_def, h2]; omega
theorem vals_parts (l : List (Int × Int)) (h : l.all okPart = true) (hu : isU64 l = true) (rest : List Int) : vals (allBits l ++ rest) (l.map (·.1)) = l.map (·.2) := by
  induction l with
  | nil => rfl
  | cons p l ih =>
    rw [List.all_cons, Bool.and_eq_true] at h
    simp only [isU64, List.all_cons, Bool.and_eq_true, decide_eq_true_eq] at hu
    have hw := okPart_w h.1
    have e := vals_cons p.1.toNat p.2 (allBits l ++ rest) (l.map (·.1))
    rw [Int.toNat_of_nonneg (by omega), part_mod h.1 hu.1.1 hu.1.2, ih h.2 (by simp only [isU64]; exact hu.2)] at e
    rw [List.map_cons, List.map_cons, allBits_cons, List.append_assoc, e]
/-- What is packed is split as it was, whatever is behind. -/
theorem split_pack (l : List (Int × Int)) (h : l.all okPart = true) (hu : isU64 l = true) (h8 : (allBits l).length % 8 = 0) (behind : ByteArray) :
    split (strOfNums (packB (allBits l)) ++ behind) (l.map (·.1)) = (l.map (·.2), behind, 0) := by
  have hb := bits_all l
  have e1 : bytesOf (strOfNums (packB (allBits l)) ++ behind) = packB (allBits l) ++ bytesOf behind := by
    rw [bytesOf_append, bytesOf_str _ (packB_range hb)]
  have hpl : (packB (allBits l)).length = (allBits l).length / 8 := by rw [packB_length]; omega
  have e2 : sBits (strOfNums (packB (allBits l)) ++ behind) = allBits l ++ sBits behind := by
    rw [sBits_cons e1, List.flatMap_append, packB_flat ((allBits l).length / 8) _ hb (by omega)]; rfl
  have hsz : (strOfNums (packB (allBits l)) ++ behind).size = (allBits l).length / 8 + behind.size := by
    rw [size_bytesOf, e1, List.length_append, hpl, bytesOf_length]
  unfold split
  rw [if_pos (okW_parts l h), sum_parts l h, if_pos (by omega), if_neg (by rw [hsz]; omega), e2, vals_parts l h hu]
  refine Prod.ext rfl (Prod.ext ?_ rfl)
  apply bytesOf_inj
  show bytesOf ((strOfNums (packB (allBits l)) ++ behind).extract _ _) = _
  rw [bytesOf_extract, e1, List.take_of_length_le (by rw [List.length_append, hpl, bytesOf_length, hsz]; omega)]
  rw [show (((allBits l).length : Int) / 8).toNat = (packB (allBits l)).length from by rw [hpl]; omega, List.drop_left]

theorem okW_cons {w : Int} {ws : List Int} (h : okW (w :: ws) = true) : 1 ≤ w ∧ w ≤ 64 ∧ okW ws = true := by
  simp only [okW, List.all_cons, Bool.and_eq_true, decide_eq_true_eq] at *
  exact ⟨h.1.1, h.1.2, h.2⟩
theorem sumW_nonneg (ws : List Int) (h : okW ws = true) : 0 ≤ sumW ws := by
  induction ws with
  | nil => simp [sumW]
  | cons w ws ih =>
    have := okW_cons h
    have := ih this.2.2
    rw [sumW_cons]; omega
theorem two_le {m : Nat} (h : m ≤ 64) : (2 : Int) ^ m ≤ 18446744073709551616 := by
  have : (2 : Nat) ^ m ≤ 2 ^ 64 := Nat.pow_le_pow_right (by decide) h
  have e : ((2 ^ m : Nat) : Int) = (2 : Int) ^ m := by push_cast; rfl
  rw [← e]
  have h64 : (2 : Nat) ^ 64 = 18446744073709551616 := by decide
  omega
theorem zip_bits (ws : List Int) : ∀ bits : List Int, IsBits bits → okW ws = true → sumW ws ≤ (bits.length : Int) →
    allBits (ws.zip (vals bits ws)) = bits.take (sumW ws).toNat ∧ (ws.zip (vals bits ws)).all okPart = true ∧ isU64 (ws.zip (vals bits ws)) = true := by
  induction ws with
  | nil => intro bits hb hok hl; simp [vals, allBits, sumW, isU64]
  | cons w ws ih =>
    intro bits hb hok hl
    have ho := okW_cons hok
    have hs := sumW_nonneg ws ho.2.2
    rw [sumW_cons] at hl
    have hd := ih (bits.drop w.toNat) (hb.drop _) ho.2.2 (by rw [List.length_drop]; omega)
    have hbt : IsBits (bits.take w.toNat) := fun b h => hb b (List.mem_of_mem_take h)
    have hlt : (bits.take w.toNat).length = w.toNat := by rw [List.length_take]; omega
    have hr := valOf_range hbt
    have hv := bitsOf_valOf hbt
    rw [hlt] at hr hv
    have h64 := two_le (m := w.toNat) (by omega)
    have ez : (w :: ws).zip (vals bits (w :: ws)) = (w, valOf (bits.take w.toNat)) :: ws.zip (vals (bits.drop w.toNat) ws) := rfl
    rw [ez]
    refine ⟨?_, ?_, ?_⟩
    · rw [allBits_cons, hd.1, sumW_cons]
      show bitsOf w.toNat (valOf (bits.take w.toNat)) ++ _ = _
      rw [hv, show (w + sumW ws).toNat = w.toNat + (sumW ws).toNat from by omega, List.take_add]
    · rw [List.all_cons, hd.2.1, Bool.and_true]
      simp only [okPart, Bool.and_eq_true, Bool.or_eq_true, decide_eq_true_eq]
      exact ⟨⟨ho.1, ho.2.1⟩, .inr (Int.ediv_eq_zero_of_lt hr.1 hr.2)⟩
    · have h3 := hd.2.2
      simp only [isU64, List.all_cons, Bool.and_eq_true, decide_eq_true_eq] at h3 ⊢
      refine ⟨⟨hr.1, ?_⟩, h3⟩
      unfold u64max
      omega
/-- What is split is packed as it was. -/
theorem pack_split (s : ByteArray) (ws : List Int) (hok : okW ws = true) (h8 : sumW ws % 8 = 0) (hsz : sumW ws / 8 ≤ (s.size : Int)) :
    strOfNums (packB (allBits (ws.zip (vals (sBits s) ws)))) ++ s.extract (sumW ws / 8).toNat s.size = s ∧ (allBits (ws.zip (vals (sBits s) ws))).length % 8 = 0 ∧
      (ws.zip (vals (sBits s) ws)).all okPart = true ∧ isU64 (ws.zip (vals (sBits s) ws)) = true := by
  have hs := sumW_nonneg ws hok
  have hz := zip_bits ws (sBits s) (sBits_bits s) hok (by rw [sBits_length]; omega)
  have hlen : ((sBits s).take (sumW ws).toNat).length = (sumW ws).toNat := by rw [List.length_take, sBits_length]; omega
  refine ⟨?_, ?_, hz.2.1, hz.2.2⟩
  · rw [hz.1]
    have e8 : (sumW ws).toNat = 8 * (sumW ws / 8).toNat := by omega
    have e : packB ((sBits s).take (sumW ws).toNat) = (bytesOf s).take (sumW ws / 8).toNat := by
      rw [e8]
      unfold sBits
      rw [flat_take]
      have := packB_bytes ((bytesOf s).take (sumW ws / 8).toNat) (fun b hb => bytesOf_range s b (List.mem_of_mem_take hb)) []
      rwa [List.append_nil, packB_nil, List.append_nil] at this
    rw [e]
    apply bytesOf_inj
    rw [bytesOf_append, bytesOf_str _ (fun b hb => bytesOf_range s b (List.mem_of_mem_take hb)), bytesOf_extract, List.take_of_length_le (l := bytesOf s) (i := s.size) (by rw [bytesOf_length]; omega), List.take_append_drop]
  · rw [hz.1, hlen]; omega

end Go.Proofs.Ytmdaaphjndjakad.Gv

/- Plain words of layer 3: what is wrong with a frame, and its head's bytes. No program in sight. -/
namespace Go.Proofs.Ytmdaaphjndjakad.Gv
open Go.RowKit Go.Proofs.YtmdaaphjndjakadW.PrintWords
set_option linter.unusedVariables false

/-- What is wrong with a frame. -/
def tagWrong (d s p v t : Int) (n : Nat) : Int :=
  if d < 281474976710656 ∧ s < 281474976710656 ∧ s / 1099511627776 % 2 = 0 then (if p ≤ 7 ∧ 1 ≤ v ∧ v ≤ 4094 then (if t < 1536 then 6 else if n > 1582 then 2 else 0) else 4) else 3
def bt1 (b : Bool) : Int := if b = true then 1 else 0
theorem bt1_range (b : Bool) : 0 ≤ bt1 b ∧ bt1 b ≤ 1 := by cases b <;> decide
/-- A frame's bytes ahead of its body. -/
def tagHead (d s p : Int) (b : Bool) (v t : Int) : ByteArray :=
  (((strOfNums (packB (bitsOf 48 d)) ++ strOfNums (packB (bitsOf 48 s))) ++ (⟨#[129, 0]⟩ : ByteArray)) ++ strOfNums (packB (bitsOf 16 (p * 8192 + v + bt1 b * 4096)))) ++ strOfNums (packB (bitsOf 16 t))
theorem tag_sizes (n : Int) : (strOfNums (packB (bitsOf 48 n))).size = 6 ∧ (strOfNums (packB (bitsOf 16 n))).size = 2 := by
  constructor <;> rw [strOfNums_size, packB_length, bitsOf_length]
theorem tagHead_size (d s p : Int) (b : Bool) (v t : Int) : (tagHead d s p b v t).size = 18 := by
  unfold tagHead
  simp only [ByteArray.size_append, (tag_sizes _).1, (tag_sizes _).2]
  rfl
def tagParts (d s p : Int) (b : Bool) (v t : Int) : List (Int × Int) := [(48, d), (48, s), (16, 33024), (3, p), (1, bt1 b), (12, v), (16, t)]
theorem tag_mark : packB (bitsOf 16 33024) = [129, 0] := by decide +kernel
theorem pack_tag (d s p : Int) (b : Bool) (v t : Int) (hd0 : 0 ≤ d) (hd1 : d < 281474976710656) (hs0 : 0 ≤ s) (hs1 : s < 281474976710656) (hp0 : 0 ≤ p) (hp1 : p ≤ 7) (hv0 : 0 ≤ v) (hv1 : v ≤ 4095) (ht0 : 0 ≤ t) (ht1 : t ≤ 65535) :
    pack (tagParts d s p b v t) = some (tagHead d s p b v t, 0) := by
  have p48 : (2 : Int) ^ (48 : Int).toNat = 281474976710656 := by decide
  have p16 : (2 : Int) ^ (16 : Int).toNat = 65536 := by decide
  have p3 : (2 : Int) ^ (3 : Int).toNat = 8 := by decide
  have p1 : (2 : Int) ^ (1 : Int).toNat = 2 := by decide
  have p12 : (2 : Int) ^ (12 : Int).toNat = 4096 := by decide
  have hb := bt1_range b
  have hu : isU64 (tagParts d s p b v t) = true := by
    simp only [tagParts, isU64, List.all_cons, List.all_nil, Bool.and_true, Bool.and_eq_true, decide_eq_true_eq]; unfold u64max; omega
  have hok : (tagParts d s p b v t).all okPart = true := by
    simp only [tagParts, List.all_cons, List.all_nil, okPart, p48, p16, p3, p1, p12, Bool.and_true, Bool.and_eq_true, Bool.or_eq_true, decide_eq_true_eq]
    refine ⟨⟨by omega, .inr (by omega)⟩, ⟨by omega, .inr (by omega)⟩, ⟨by omega, .inr (by omega)⟩, ⟨by omega, .inr (by omega)⟩, ⟨by omega, .inr (by omega)⟩, ⟨by omega, .inr (by omega)⟩, ⟨by omega, .inr (by omega)⟩⟩
  have hbits : allBits (tagParts d s p b v t) = bitsOf 48 d ++ (bitsOf 48 s ++ (bitsOf 16 33024 ++ (bitsOf 16 (p * 8192 + v + bt1 b * 4096) ++ bitsOf 16 t))) := by
    have q12 : (2 : Int) ^ 12 = 4096 := by decide
    have q1 : (2 : Int) ^ 1 = 2 := by decide
    have e1 := bitsOf_join 3 1 p (bt1 b) (by omega) (by rw [q1]; omega)
    have e2 := bitsOf_join 4 12 (p * 2 ^ 1 + bt1 b) v hv0 (by rw [q12]; omega)
    rw [q1] at e1 e2
    rw [q12] at e2
    rw [show (p * 2 + bt1 b) * 4096 + v = p * 8192 + v + bt1 b * 4096 from by omega] at e2
    have e3 : bitsOf 16 (p * 8192 + v + bt1 b * 4096) = bitsOf 3 p ++ (bitsOf 1 (bt1 b) ++ bitsOf 12 v) := by
      rw [← List.append_assoc]
      exact e2.symm.trans (by rw [← e1])
    rw [e3]
    simp only [tagParts, allBits, List.flatMap_cons, List.flatMap_nil, List.append_nil, List.append_assoc]
    rfl
  have hlen : (allBits (tagParts d s p b v t)).length % 8 = 0 := by
    rw [hbits]; simp only [List.length_append, bitsOf_length]
  unfold pack
  rw [if_pos ⟨hu, by simp [tagParts]⟩, if_pos hok, if_pos hlen, hbits]
  rw [packB_whole 6 _ _ (bitsOf_bits _ _) (bitsOf_length _ _), packB_whole 6 _ _ (bitsOf_bits _ _) (bitsOf_length _ _), packB_whole 2 _ _ (bitsOf_bits _ _) (bitsOf_length _ _), packB_whole 2 _ _ (bitsOf_bits _ _) (bitsOf_length _ _), tag_mark]
  have e : tagHead d s p b v t = strOfNums (packB (bitsOf 48 d) ++ (packB (bitsOf 48 s) ++ ([129, 0] ++ (packB (bitsOf 16 (p * 8192 + v + bt1 b * 4096)) ++ packB (bitsOf 16 t))))) := by
    unfold tagHead
    rw [strOfNums_append, strOfNums_append, strOfNums_append, strOfNums_append, ← ByteArray.append_assoc, ← ByteArray.append_assoc, ← ByteArray.append_assoc]
    rfl
  rw [e]
  rfl
theorem pack_two (n : Int) (h0 : 0 ≤ n) (h1 : n ≤ 65535) : pack [(16, n)] = some (strOfNums (packB (bitsOf 16 n)), 0) := by
  have p16 : (2 : Int) ^ (16 : Int).toNat = 65536 := by decide
  have hu : isU64 [((16 : Int), n)] = true := by
    simp only [isU64, List.all_cons, List.all_nil, Bool.and_true, Bool.and_eq_true, decide_eq_true_eq]; unfold u64max; omega
  have hok : [((16 : Int), n)].all okPart = true := by
    simp only [List.all_cons, List.all_nil, okPart, p16, Bool.and_true, Bool.and_eq_true, Bool.or_eq_true, decide_eq_true_eq]
    exact ⟨by omega, .inr (by omega)⟩
  have hbits : allBits [((16 : Int), n)] = bitsOf 16 n := by
    simp only [allBits, List.flatMap_cons, List.flatMap_nil, List.append_nil]; rfl
  unfold pack
  rw [if_pos ⟨hu, by simp⟩, if_pos hok, hbits, if_pos (by rw [bitsOf_length])]
  rfl
theorem pack_six (n : Int) (h0 : 0 ≤ n) (h1 : n < 281474976710656) : pack [(48, n)] = some (strOfNums (packB (bitsOf 48 n)), 0) := by
  have p48 : (2 : Int) ^ (48 : Int).toNat = 281474976710656 := by decide
  have hu : isU64 [((48 : Int), n)] = true := by
    simp only [isU64, List.all_cons, List.all_nil, Bool.and_true, Bool.and_eq_true, decide_eq_true_eq]; unfold u64max; omega
  have hok : [((48 : Int), n)].all okPart = true := by
    simp only [List.all_cons, List.all_nil, okPart, p48, Bool.and_true, Bool.and_eq_true, Bool.or_eq_true, decide_eq_true_eq]
    exact ⟨by omega, .inr (by omega)⟩
  have hbits : allBits [((48 : Int), n)] = bitsOf 48 n := by
    simp only [allBits, List.flatMap_cons, List.flatMap_nil, List.append_nil]; rfl
  unfold pack
  rw [if_pos ⟨hu, by simp⟩, if_pos hok, hbits, if_pos (by rw [bitsOf_length])]
  rfl

end Go.Proofs.Ytmdaaphjndjakad.Gv

/- Plain words: the number of so many bytes of a string, from a place on; a tagged frame opened. No program in sight. -/
namespace Go.Proofs.Ytmdaaphjndjakad.Gv
open Go.RowKit Go.Proofs.YtmdaaphjndjakadW.PrintWords
set_option linter.unusedVariables false

/-- The number of n bytes from place a on. -/
def numOf (s : ByteArray) (a n : Nat) : Int := valOf (((sBits s).drop (8 * a)).take (8 * n))
theorem flat_drop (n : Nat) : ∀ l : List Int, (l.flatMap fun b => bitsOf 8 b).drop (8 * n) = (l.drop n).flatMap fun b => bitsOf 8 b := by
  induction n with
  | zero => intro l; simp
  | succ n ih =>
    intro l
    cases l with
    | nil => simp
    | cons b l =>
      rw [List.flatMap_cons, List.drop_succ_cons, List.drop_append, bitsOf_length, List.drop_of_length_le (by rw [bitsOf_length]; omega), List.nil_append, show 8 * (n + 1) - 8 = 8 * n from by omega, ih]
theorem sBits_extract (s : ByteArray) (a : Nat) : sBits (s.extract a s.size) = (sBits s).drop (8 * a) := by
  unfold sBits
  rw [flat_drop, bytesOf_extract, List.take_of_length_le (by rw [bytesOf_length]; exact Nat.le_refl _)]
theorem drop_bits {l : List Int} (h : IsBits l) (k : Nat) : IsBits (l.drop k) := h.drop k
theorem num_bits (s : ByteArray) (a n : Nat) : IsBits (((sBits s).drop (8 * a)).take (8 * n)) := fun b hb => sBits_bits s b (List.mem_of_mem_drop (List.mem_of_mem_take hb))
theorem num_len (s : ByteArray) (a n : Nat) (h : a + n ≤ s.size) : (((sBits s).drop (8 * a)).take (8 * n)).length = 8 * n := by
  rw [List.length_take, List.length_drop, sBits_length]; omega
theorem numOf_range (s : ByteArray) (a n : Nat) (h : a + n ≤ s.size) : 0 ≤ numOf s a n ∧ numOf s a n < 2 ^ (8 * n) := by
  have := valOf_range (num_bits s a n)
  rwa [num_len s a n h] at this
theorem num_back (s : ByteArray) (a n : Nat) (h : a + n ≤ s.size) : bitsOf (8 * n) (numOf s a n) = ((sBits s).drop (8 * a)).take (8 * n) := by
  have := bitsOf_valOf (num_bits s a n)
  rwa [num_len s a n h] at this
theorem num_cut (s : ByteArray) (a n : Nat) (h : a + n ≤ s.size) : (sBits s).drop (8 * a) = bitsOf (8 * n) (numOf s a n) ++ (sBits s).drop (8 * (a + n)) := by
  rw [num_back s a n h, show 8 * (a + n) = 8 * a + 8 * n from by omega, ← List.drop_drop, List.take_append_drop]
theorem num_bytes (s : ByteArray) (a n : Nat) (h : a + n ≤ s.size) : strOfNums (packB (bitsOf (8 * n) (numOf s a n))) = s.extract a (a + n) := by
  rw [num_back s a n h]
  unfold sBits
  rw [flat_drop, flat_take]
  have := packB_bytes (((bytesOf s).drop a).take n) (fun b hb => bytesOf_range s b (List.mem_of_mem_drop (List.mem_of_mem_take hb))) []
  rw [List.append_nil, packB_nil, List.append_nil] at this
  rw [this]
  apply bytesOf_inj
  rw [bytesOf_str _ (fun b hb => bytesOf_range s b (List.mem_of_mem_drop (List.mem_of_mem_take hb))), bytesOf_extract, List.drop_take, show a + n - a = n from by omega]
theorem bits8_take (b : Int) (l : List Int) : (bitsOf 8 b ++ l).take 8 = bitsOf 8 b := by
  rw [List.take_append_of_le_length (by rw [bitsOf_length]; exact Nat.le_refl _), List.take_of_length_le (by rw [bitsOf_length]; exact Nat.le_refl _)]
theorem num_one (s : ByteArray) (a : Nat) (h : a < s.size) : numOf s a 1 = bt s (a : Int) := by
  unfold numOf sBits
  rw [flat_drop]
  have hl : a < (bytesOf s).length := by rw [bytesOf_length]; exact h
  rw [List.drop_eq_getElem_cons hl, List.flatMap_cons, show 8 * 1 = 8 from rfl, bits8_take, valOf_bitsOf, show (2 : Int) ^ 8 = 256 from by decide]
  have hr := bytesOf_range s (bytesOf s)[a] (List.getElem_mem hl)
  rw [bt_get, Int.toNat_natCast, List.getD_eq_getElem?_getD, List.getElem?_eq_getElem hl, Int.emod_eq_of_lt hr.1 (by omega)]
  rfl
/-- A number of m + n bytes: of the first m, then of n more. -/
theorem num_add (s : ByteArray) (a m n : Nat) (h : a + (m + n) ≤ s.size) : numOf s a (m + n) = numOf s a m * 2 ^ (8 * n) + numOf s (a + m) n := by
  have hl := num_len s (a + m) n (by omega)
  unfold numOf at *
  rw [show 8 * (m + n) = 8 * m + 8 * n from by omega, List.take_add, valOf_append, List.drop_drop, show 8 * a + 8 * m = 8 * (a + m) from by omega, hl]
theorem num_two (s : ByteArray) (a : Nat) (h : a + 2 ≤ s.size) : numOf s a 2 = bt s (a : Int) * 256 + bt s ((a + 1 : Nat) : Int) := by
  have := num_add s a 1 1 (by omega)
  rw [this, num_one s a (by omega), num_one s (a + 1) (by omega)]
  rfl
theorem split_one (s : ByteArray) (n : Nat) (h1 : 1 ≤ n) (h8 : n ≤ 8) (h : n ≤ s.size) : split s [((8 * n : Nat) : Int)] = ([valOf ((sBits s).take (8 * n))], s.extract n s.size, 0) := by
  have e1 : okW [((8 * n : Nat) : Int)] = true := by simp [okW]; omega
  have e2 : sumW [((8 * n : Nat) : Int)] = ((8 * n : Nat) : Int) := by simp [sumW]
  have e3 : vals (sBits s) [((8 * n : Nat) : Int)] = [valOf ((sBits s).take (8 * n))] := rfl
  unfold split
  rw [if_pos e1, e2, if_pos (by omega), if_neg (by omega), e3, show (((8 * n : Nat) : Int) / 8).toNat = n from by omega]

/-! ### a tagged frame -/
def tagW : List Int := [48, 48, 16, 3, 1, 12, 16]
theorem split_tag (s : ByteArray) (h : 18 ≤ s.size) :
    split s tagW = ([numOf s 0 6, numOf s 6 6, numOf s 12 2, numOf s 14 2 / 8192, numOf s 14 2 / 4096 % 2, numOf s 14 2 % 4096, numOf s 16 2], s.extract 18 s.size, 0) := by
  have e1 : okW tagW = true := by decide
  have e2 : sumW tagW = 144 := by decide
  unfold split
  rw [if_pos e1, e2, if_pos (by decide), if_neg (by omega)]
  have r0 := numOf_range s 0 6 (by omega); have r1 := numOf_range s 6 6 (by omega); have r2 := numOf_range s 12 2 (by omega); have r3 := numOf_range s 14 2 (by omega); have r4 := numOf_range s 16 2 (by omega)
  have c0 := num_cut s 0 6 (by omega); have c1 := num_cut s 6 6 (by omega); have c2 := num_cut s 12 2 (by omega); have c3 := num_cut s 14 2 (by omega); have c4 := num_cut s 16 2 (by omega)
  have p48 : (2 : Int) ^ (8 * 6) = 281474976710656 := by decide
  have p16 : (2 : Int) ^ (8 * 2) = 65536 := by decide
  rw [p48] at r0 r1
  rw [p16] at r2 r3 r4
  rw [Nat.mul_zero, List.drop_zero] at c0
  have d3 : bitsOf (8 * 2) (numOf s 14 2) = bitsOf 3 (numOf s 14 2 / 8192) ++ (bitsOf 1 (numOf s 14 2 / 4096) ++ bitsOf 12 (numOf s 14 2)) := by
    have a1 := bitsOf_add 4 12 (numOf s 14 2)
    have a2 := bitsOf_add 3 1 (numOf s 14 2 / 2 ^ 12)
    rw [show (2 : Int) ^ 12 = 4096 from by decide] at a1 a2
    rw [show (2 : Int) ^ 1 = 2 from by decide, Int.ediv_ediv_of_nonneg (by decide)] at a2
    rw [← List.append_assoc]
    exact a1.trans (by rw [show (4 : Nat) = 3 + 1 from rfl, a2]; rfl)
  have e4 : vals (sBits s) tagW = [numOf s 0 6, numOf s 6 6, numOf s 12 2, numOf s 14 2 / 8192, numOf s 14 2 / 4096 % 2, numOf s 14 2 % 4096, numOf s 16 2] := by
    rw [c0, c1, c2, c3, c4, d3, List.append_assoc, List.append_assoc, show tagW = (((8 * 6 : Nat) : Int)) :: ((8 * 6 : Nat) : Int) :: ((8 * 2 : Nat) : Int) :: ((3 : Nat) : Int) :: ((1 : Nat) : Int) :: ((12 : Nat) : Int) :: ((8 * 2 : Nat) : Int) :: [] from rfl]
    rw [vals_cons, vals_cons, vals_cons, vals_cons, vals_cons, vals_cons, vals_cons, vals_none, p48, p16]
    rw [show (2 : Int) ^ 3 = 8 from by decide, show (2 : Int) ^ 1 = 2 from by decide, show (2 : Int) ^ 12 = 4096 from by decide]
    rw [Int.emod_eq_of_lt r0.1 r0.2, Int.emod_eq_of_lt r1.1 r1.2, Int.emod_eq_of_lt r2.1 r2.2, Int.emod_eq_of_lt r4.1 r4.2, Int.emod_eq_of_lt (a := numOf s 14 2 / 8192) (by omega) (by omega)]
  rw [e4]
  rfl
theorem split_tag_short (s : ByteArray) (h : s.size < 18) : split s tagW = ([], ⟨#[]⟩, 1) := by
  have e1 : okW tagW = true := by decide
  have e2 : sumW tagW = 144 := by decide
  unfold split
  rw [if_pos e1, e2, if_pos (by decide), if_pos (by omega)]
/-- Nothing, and what is wrong. -/
def tagNone (e : Int) : Int × Int × Int × Bool × Int × Int × ByteArray × Int := (0, 0, 0, false, 0, 0, ⟨#[]⟩, e)
/-- The frame of bytes, or what is wrong. -/
def tagOpen (s : ByteArray) : Int × Int × Int × Bool × Int × Int × ByteArray × Int :=
  if s.size > 1600 then tagNone 2
  else if s.size < 18 then tagNone 1
  else if numOf s 12 2 = 33024 then
    (if tagWrong (numOf s 0 6) (numOf s 6 6) (numOf s 14 2 / 8192) (numOf s 14 2 % 4096) (numOf s 16 2) (s.size - 18) = 0
      then (numOf s 0 6, numOf s 6 6, numOf s 14 2 / 8192, numOf s 14 2 / 4096 % 2 == 1, numOf s 14 2 % 4096, numOf s 16 2, s.extract 18 s.size, 0)
      else tagNone (tagWrong (numOf s 0 6) (numOf s 6 6) (numOf s 14 2 / 8192) (numOf s 14 2 % 4096) (numOf s 16 2) (s.size - 18)))
  else tagNone 5
theorem tagHead_packed (d s p : Int) (b : Bool) (v t : Int) (hd0 : 0 ≤ d) (hd1 : d < 281474976710656) (hs0 : 0 ≤ s) (hs1 : s < 281474976710656) (hp0 : 0 ≤ p) (hp1 : p ≤ 7) (hv0 : 0 ≤ v) (hv1 : v ≤ 4095) (ht0 : 0 ≤ t) (ht1 : t ≤ 65535) (body : ByteArray) :
    split (tagHead d s p b v t ++ body) tagW = ([d, s, 33024, p, bt1 b, v, t], body, 0) := by
  have h := pack_tag d s p b v t hd0 hd1 hs0 hs1 hp0 hp1 hv0 hv1 ht0 ht1
  unfold pack at h
  by_cases h1 : isU64 (tagParts d s p b v t) = true ∧ (tagParts d s p b v t).length ≤ 1000000
  · rw [if_pos h1] at h
    by_cases h2 : (tagParts d s p b v t).all okPart = true
    · rw [if_pos h2] at h
      by_cases h3 : (allBits (tagParts d s p b v t)).length % 8 = 0
      · rw [if_pos h3] at h
        have e : ofNums (packB (allBits (tagParts d s p b v t))) = tagHead d s p b v t := (Prod.mk.inj (Option.some.inj h)).1
        rw [← e]
        exact split_pack (tagParts d s p b v t) h2 h1.1 h3 body
      · rw [if_neg h3] at h; simp at h
    · rw [if_neg h2] at h; simp at h
  · rw [if_neg h1] at h; simp at h
theorem tagWrong_zero {d s p v t : Int} {n : Nat} (h : tagWrong d s p v t n = 0) : (d < 281474976710656 ∧ s < 281474976710656 ∧ s / 1099511627776 % 2 = 0) ∧ (p ≤ 7 ∧ 1 ≤ v ∧ v ≤ 4094) ∧ ¬ t < 1536 ∧ ¬ n > 1582 := by
  unfold tagWrong at h
  by_cases h1 : d < 281474976710656 ∧ s < 281474976710656 ∧ s / 1099511627776 % 2 = 0
  · rw [if_pos h1] at h
    by_cases h2 : p ≤ 7 ∧ 1 ≤ v ∧ v ≤ 4094
    · rw [if_pos h2] at h
      by_cases h3 : t < 1536
      · rw [if_pos h3] at h; omega
      · rw [if_neg h3] at h
        by_cases h4 : n > 1582
        · rw [if_pos h4] at h; omega
        · exact ⟨h1, h2, h3, h4⟩
    · rw [if_neg h2] at h; omega
  · rw [if_neg h1] at h; omega
/-- What is closed is opened as it was. -/
theorem tag_there (d s p : Int) (b : Bool) (v t : Int) (body : ByteArray) (hd0 : 0 ≤ d) (hs0 : 0 ≤ s) (hp0 : 0 ≤ p) (hv0 : 0 ≤ v) (ht0 : 0 ≤ t) (ht1 : t ≤ 65535) (h : tagWrong d s p v t body.size = 0) :
    tagOpen (tagHead d s p b v t ++ body) = (d, s, p, b, v, t, body, 0) := by
  have hz := tagWrong_zero h
  have hsz : (tagHead d s p b v t ++ body).size = 18 + body.size := by rw [ByteArray.size_append, tagHead_size]
  have e1 := tagHead_packed d s p b v t hd0 hz.1.1 hs0 hz.1.2.1 hp0 hz.2.1.1 hv0 (by omega) ht0 ht1 body
  have e2 := split_tag (tagHead d s p b v t ++ body) (by omega)
  rw [e1] at e2
  generalize tagHead d s p b v t ++ body = x at e2 hsz
  simp only [Prod.mk.injEq, List.cons.injEq, and_true] at e2
  obtain ⟨⟨a0, a1, a2, a3, a4, a5, a6⟩, a7⟩ := e2
  unfold tagOpen
  rw [if_neg (by omega), if_neg (by omega), ← a0, ← a1, ← a2, ← a3, ← a4, ← a5, ← a6, ← a7, if_pos rfl, hsz, show 18 + body.size - 18 = body.size from by omega, if_pos h]
  have eb : (bt1 b == 1) = b := by cases b <;> rfl
  rw [eb]
theorem ext_join (s : ByteArray) (a b c : Nat) (h1 : a ≤ b) (h2 : b ≤ c) (h3 : c ≤ s.size) : s.extract a b ++ s.extract b c = s.extract a c := by
  apply bytesOf_inj
  rw [bytesOf_append, bytesOf_extract, bytesOf_extract, bytesOf_extract]
  have hl : (bytesOf s).length = s.size := bytesOf_length s
  rw [List.drop_take, List.drop_take, List.drop_take, show c - a = (b - a) + (c - b) from by omega, List.take_add, List.drop_drop, show a + (b - a) = b from by omega]
theorem ext_whole (s : ByteArray) : s.extract 0 s.size = s := by
  apply bytesOf_inj
  rw [bytesOf_extract, List.take_of_length_le (by rw [bytesOf_length]; exact Nat.le_refl _), List.drop_zero]
theorem bt1_of (n : Int) : bt1 (n % 2 == 1) = n % 2 := by
  rcases mod2 n with h | h <;> rw [h] <;> rfl
/-- What is opened is closed as it was. -/
theorem tag_back (s : ByteArray) (h : 18 ≤ s.size) (hm : numOf s 12 2 = 33024) :
    tagHead (numOf s 0 6) (numOf s 6 6) (numOf s 14 2 / 8192) (numOf s 14 2 / 4096 % 2 == 1) (numOf s 14 2 % 4096) (numOf s 16 2) ++ s.extract 18 s.size = s := by
  have b0 := num_bytes s 0 6 (by omega); have b1 := num_bytes s 6 6 (by omega); have b2 := num_bytes s 12 2 (by omega); have b3 := num_bytes s 14 2 (by omega); have b4 := num_bytes s 16 2 (by omega)
  rw [hm, show 8 * 2 = 16 from rfl, tag_mark, show strOfNums [129, 0] = (⟨#[129, 0]⟩ : ByteArray) from rfl] at b2
  have en : numOf s 14 2 / 8192 * 8192 + numOf s 14 2 % 4096 + bt1 (numOf s 14 2 / 4096 % 2 == 1) * 4096 = numOf s 14 2 := by
    rw [bt1_of]; omega
  unfold tagHead
  rw [en]
  rw [show (16 : Nat) = 8 * 2 from rfl, show (48 : Nat) = 8 * 6 from rfl, b0, b1, b2, b3, b4]
  simp only [Nat.reduceAdd]
  rw [ext_join s 0 6 12 (by omega) (by omega) (by omega), ext_join s 0 12 14 (by omega) (by omega) (by omega), ext_join s 0 14 16 (by omega) (by omega) (by omega), ext_join s 0 16 18 (by omega) (by omega) (by omega), ext_join s 0 18 s.size (by omega) (by omega) (by omega), ext_whole]

end Go.Proofs.Ytmdaaphjndjakad.Gv

/- An address's text: plain words; read it is the address; what is read is written as it was. -/
namespace Go.Proofs.Ytmdaaphjndjakad.LAll
open Go.RowKit Go.Proofs.Ytmdaaphjndjakad.PAll Go.Proofs.YtmdaaphjndjakadW.PrintWords Go.Proofs.YtmdaaphjndjakadW.PrintLast Go.Proofs.YtmdaaphjndjakadW.PrintMore Go.Proofs.Ytmdaaphjndjakad
set_option linter.unusedVariables false
set_option linter.unusedSimpArgs false

/-- A digit. -/
def hexc (d : Int) : Int := if d < 10 then 48 + d else 87 + d
def hex2 (b : Int) : List Int := [hexc (b / 16), hexc (b % 16)]
def txt : List Int → List Int
  | [] => []
  | [b] => hex2 b
  | b :: c :: l => hex2 b ++ 58 :: txt (c :: l)
theorem hexc_range (d : Int) (h0 : 0 ≤ d) (h1 : d ≤ 15) : 48 ≤ hexc d ∧ hexc d ≤ 102 := by unfold hexc; split <;> omega
theorem dig_hexc (d : Int) (h0 : 0 ≤ d) (h1 : d ≤ 15) : dig (hexc d) = d := by
  unfold hexc dig
  by_cases h : d < 10
  · rw [if_pos h, if_pos (by omega)]; omega
  · rw [if_neg h, if_neg (by omega), if_pos (by omega)]; omega
theorem hexc_dig (c : Int) (h : 0 ≤ dig c) : hexc (dig c) = c := by
  unfold dig at *
  by_cases h1 : 48 ≤ c ∧ c ≤ 57
  · rw [if_pos h1] at *; unfold hexc; rw [if_pos (by omega)]; omega
  · rw [if_neg h1] at *
    by_cases h2 : 97 ≤ c ∧ c ≤ 102
    · rw [if_pos h2] at *; unfold hexc; rw [if_neg (by omega)]; omega
    · rw [if_neg h2] at *; omega
theorem pack_48 (n : Int) : Gv.packB (Gv.bitsOf 48 n) = [n / 1099511627776 % 256, n / 4294967296 % 256, n / 16777216 % 256, n / 65536 % 256, n / 256 % 256, n % 256] := by
  rw [show (48 : Nat) = 40 + 8 from rfl, Gv.bitsOf_8, show (40 : Nat) = 32 + 8 from rfl, Gv.bitsOf_8, show (32 : Nat) = 24 + 8 from rfl, Gv.bitsOf_8, show (24 : Nat) = 16 + 8 from rfl, Gv.bitsOf_8, show (16 : Nat) = 8 + 8 from rfl, Gv.bitsOf_8]
  simp only [List.append_assoc]
  rw [Gv.packB_byte, Gv.packB_byte, Gv.packB_byte, Gv.packB_byte, Gv.packB_byte, Gv.packB_last]
  simp only [List.cons.injEq, and_true]
  omega
/-- The text of an address. -/
def macText (n : Int) : ByteArray := strOfNums (txt (Gv.packB (Gv.bitsOf 48 n)))
theorem text_bytes (n : Int) : bytesOf (macText n) =
    [hexc (n / 1099511627776 % 256 / 16), hexc (n / 1099511627776 % 256 % 16), 58, hexc (n / 4294967296 % 256 / 16), hexc (n / 4294967296 % 256 % 16), 58, hexc (n / 16777216 % 256 / 16), hexc (n / 16777216 % 256 % 16), 58,
      hexc (n / 65536 % 256 / 16), hexc (n / 65536 % 256 % 16), 58, hexc (n / 256 % 256 / 16), hexc (n / 256 % 256 % 16), 58, hexc (n % 256 / 16), hexc (n % 256 % 16)] := by
  unfold macText
  rw [pack_48]
  have e : ∀ a b c d e f : Int, txt [a, b, c, d, e, f] = [hexc (a / 16), hexc (a % 16), 58, hexc (b / 16), hexc (b % 16), 58, hexc (c / 16), hexc (c % 16), 58, hexc (d / 16), hexc (d % 16), 58, hexc (e / 16), hexc (e % 16), 58, hexc (f / 16), hexc (f % 16)] := fun _ _ _ _ _ _ => rfl
  rw [e, Gv.bytesOf_str]
  intro x hx
  have q : ∀ d : Int, 0 ≤ d → d ≤ 15 → 0 ≤ hexc d ∧ hexc d ≤ 255 := fun d h0 h1 => by have := hexc_range d h0 h1; omega
  simp only [List.mem_cons, List.mem_nil_iff, or_false] at hx
  rcases hx with rfl | rfl | rfl | rfl | rfl | rfl | rfl | rfl | rfl | rfl | rfl | rfl | rfl | rfl | rfl | rfl | rfl <;> first | exact q _ (by omega) (by omega) | decide
theorem text_size (n : Int) : (macText n).size = 17 := by rw [Gv.size_bytesOf, text_bytes]; rfl

/-- Read it is the address. -/
theorem parse_text (n : Int) (h0 : 0 ≤ n) (h1 : n < 281474976710656) : macParse (macText n) = (n, 0) := by
  have hb := text_bytes n
  have hs := text_size n
  generalize macText n = s at hb hs
  have g : ∀ (i : Nat) (v : Int), (bytesOf s).getD i 0 = v → bt s ((i : Nat) : Int) = v := fun i v h => by rw [Gv.bt_get, Int.toNat_natCast]; exact h
  rw [hb] at g
  have a0 := g 0 _ rfl; have a1 := g 1 _ rfl; have a2 := g 2 _ rfl; have a3 := g 3 _ rfl; have a4 := g 4 _ rfl; have a5 := g 5 _ rfl; have a6 := g 6 _ rfl; have a7 := g 7 _ rfl; have a8 := g 8 _ rfl
  have a9 := g 9 _ rfl; have a10 := g 10 _ rfl; have a11 := g 11 _ rfl; have a12 := g 12 _ rfl; have a13 := g 13 _ rfl; have a14 := g 14 _ rfl; have a15 := g 15 _ rfl; have a16 := g 16 _ rfl
  simp only [List.getD_cons_zero, List.getD_cons_succ] at a0 a1 a2 a3 a4 a5 a6 a7 a8 a9 a10 a11 a12 a13 a14 a15 a16
  have d0 := dig_hexc (n / 1099511627776 % 256 / 16) (by omega) (by omega); have d1 := dig_hexc (n / 1099511627776 % 256 % 16) (by omega) (by omega)
  have d2 := dig_hexc (n / 4294967296 % 256 / 16) (by omega) (by omega); have d3 := dig_hexc (n / 4294967296 % 256 % 16) (by omega) (by omega)
  have d4 := dig_hexc (n / 16777216 % 256 / 16) (by omega) (by omega); have d5 := dig_hexc (n / 16777216 % 256 % 16) (by omega) (by omega)
  have d6 := dig_hexc (n / 65536 % 256 / 16) (by omega) (by omega); have d7 := dig_hexc (n / 65536 % 256 % 16) (by omega) (by omega)
  have d8 := dig_hexc (n / 256 % 256 / 16) (by omega) (by omega); have d9 := dig_hexc (n / 256 % 256 % 16) (by omega) (by omega)
  have d10 := dig_hexc (n % 256 / 16) (by omega) (by omega); have d11 := dig_hexc (n % 256 % 16) (by omega) (by omega)
  have hok : okTo s 17 = true := by
    simp only [okTo, okAt, a0, a1, a2, a3, a4, a5, a6, a7, a8, a9, a10, a11, a12, a13, a14, a15, a16, d0, d1, d2, d3, d4, d5, d6, d7, d8, d9, d10, d11, Nat.reduceMod, Nat.reduceEqDiff, if_true, if_false, Bool.and_eq_true, decide_eq_true_eq, Bool.true_and, beq_self_eq_true, Bool.and_true]
    omega
  have hv : valTo s 17 = n := by
    simp only [valTo, a0, a1, a2, a3, a4, a5, a6, a7, a8, a9, a10, a11, a12, a13, a14, a15, a16, d0, d1, d2, d3, d4, d5, d6, d7, d8, d9, d10, d11, Nat.reduceMod, Nat.reduceEqDiff, if_true, if_false]
    omega
  unfold macParse
  rw [if_pos hs, if_pos hok, hv]

/-- What is read is written as it was. -/
theorem text_parse (s : ByteArray) (h : (macParse s).2 = 0) : macText (macParse s).1 = s ∧ (macParse s).1 < 281474976710656 ∧ 0 ≤ (macParse s).1 := by
  unfold macParse at *
  by_cases hs : s.size = 17
  · rw [if_pos hs] at *
    by_cases hok : okTo s 17 = true
    · rw [if_pos hok] at *
      have hr := valTo_small s 17 (by omega) hok
      refine ⟨?_, hr.2, hr.1⟩
      show macText (valTo s 17) = s
      apply Gv.bytesOf_inj
      have hh := Gv.bytesOf_head s 17 (by omega)
      rw [List.drop_of_length_le (by rw [bytesOf_length]; omega), List.append_nil] at hh
      rw [text_bytes, hh]
      simp only [okTo, okAt, Nat.reduceMod, Nat.reduceEqDiff, if_true, if_false, Bool.and_eq_true, decide_eq_true_eq, beq_iff_eq, Bool.true_and] at hok
      have q := fun i : Nat => dig_range (bt s (i : Int))
      have q0 := q 0; have q1 := q 1; have q3 := q 3; have q4 := q 4; have q6 := q 6; have q7 := q 7; have q9 := q 9; have q10 := q 10; have q12 := q 12; have q13 := q 13; have q15 := q 15; have q16 := q 16
      have hv : valTo s 17 = ((((((((((((0 * 16 + dig (bt s ((0 : Nat) : Int))) * 16 + dig (bt s ((1 : Nat) : Int))) * 16 + dig (bt s ((3 : Nat) : Int))) * 16 + dig (bt s ((4 : Nat) : Int))) * 16 + dig (bt s ((6 : Nat) : Int))) * 16 + dig (bt s ((7 : Nat) : Int))) * 16 + dig (bt s ((9 : Nat) : Int))) * 16 + dig (bt s ((10 : Nat) : Int))) * 16 + dig (bt s ((12 : Nat) : Int))) * 16 + dig (bt s ((13 : Nat) : Int))) * 16 + dig (bt s ((15 : Nat) : Int))) * 16 + dig (bt s ((16 : Nat) : Int))) := by
        simp only [valTo, Nat.reduceMod, Nat.reduceEqDiff, if_true, if_false]
      have c := fun i : Nat => hexc_dig (bt s (i : Int))
      obtain ⟨⟨⟨⟨⟨⟨⟨⟨⟨⟨⟨⟨⟨⟨⟨⟨k0, k1⟩, k2⟩, k3⟩, k4⟩, k5⟩, k6⟩, k7⟩, k8⟩, k9⟩, k10⟩, k11⟩, k12⟩, k13⟩, k14⟩, k15⟩, k16⟩ := hok
      have c0 := c 0 k0; have c1 := c 1 k1; have c3 := c 3 k3; have c4 := c 4 k4; have c6 := c 6 k6; have c7 := c 7 k7; have c9 := c 9 k9; have c10 := c 10 k10; have c12 := c 12 k12; have c13 := c 13 k13; have c15 := c 15 k15; have c16 := c 16 k16
      generalize valTo s 17 = z at hv
      generalize dig (bt s ((0 : Nat) : Int)) = x0 at *
      generalize dig (bt s ((1 : Nat) : Int)) = x1 at *
      generalize dig (bt s ((3 : Nat) : Int)) = x2 at *
      generalize dig (bt s ((4 : Nat) : Int)) = x3 at *
      generalize dig (bt s ((6 : Nat) : Int)) = x4 at *
      generalize dig (bt s ((7 : Nat) : Int)) = x5 at *
      generalize dig (bt s ((9 : Nat) : Int)) = x6 at *
      generalize dig (bt s ((10 : Nat) : Int)) = x7 at *
      generalize dig (bt s ((12 : Nat) : Int)) = x8 at *
      generalize dig (bt s ((13 : Nat) : Int)) = x9 at *
      generalize dig (bt s ((15 : Nat) : Int)) = x10 at *
      generalize dig (bt s ((16 : Nat) : Int)) = x11 at *
      have e0 : z / 1099511627776 % 256 / 16 = x0 := by omega
      have e1 : z / 1099511627776 % 256 % 16 = x1 := by omega
      have e2 : z / 4294967296 % 256 / 16 = x2 := by omega
      have e3 : z / 4294967296 % 256 % 16 = x3 := by omega
      have e4 : z / 16777216 % 256 / 16 = x4 := by omega
      have e5 : z / 16777216 % 256 % 16 = x5 := by omega
      have e6 : z / 65536 % 256 / 16 = x6 := by omega
      have e7 : z / 65536 % 256 % 16 = x7 := by omega
      have e8 : z / 256 % 256 / 16 = x8 := by omega
      have e9 : z / 256 % 256 % 16 = x9 := by omega
      have e10 : z % 256 / 16 = x10 := by omega
      have e11 : z % 256 % 16 = x11 := by omega
      rw [e0, e1, e2, e3, e4, e5, e6, e7, e8, e9, e10, e11, c0, c1, c3, c4, c6, c7, c9, c10, c12, c13, c15, c16]
      simp only [List.range, List.range.loop, List.map, k2, k5, k8, k11, k14]
    · rw [if_neg hok] at h; simp at h
  · rw [if_neg hs] at h; simp at h

end Go.Proofs.Ytmdaaphjndjakad.LAll

/- An address's bytes and text, the program's: they come to plain words. -/
namespace Go.Proofs.Ytmdaaphjndjakad.LAll
open Go.RowKit Go.Proofs.Ytmdaaphjndjakad.PAll Go.Proofs.YtmdaaphjndjakadW.PrintWords Go.Proofs.YtmdaaphjndjakadW.PrintLast Go.Proofs.YtmdaaphjndjakadW.PrintMore Go.Proofs.Ytmdaaphjndjakad
set_option linter.unusedVariables false
set_option linter.unusedSimpArgs false

/-- The bytes of a number; none, if it is no address. -/
def bytes6 (n : Int) : ByteArray := if n < 281474976710656 then strOfNums (Gv.packB (Gv.bitsOf 48 n)) else ⟨#[]⟩
theorem ms_bytes (n : Int) (h0 : 0 ≤ n) (h1 : n ≤ 18446744073709551615) : mac_Addr_Bytes.f n = some (bytes6 n) := by
  unfold mac_Addr_Bytes.f bytes6
  have e : field_Pack.f (([(⟨48, n⟩ : S81)] : List S81)) = Gv.pack [(48, n)] := rfl
  rw [e]
  by_cases h : n < 281474976710656
  · rw [Gv.pack_six n h0 h, if_pos h]; rfl
  · rw [if_neg h]
    have p48 : (2 : Int) ^ (48 : Int).toNat = 281474976710656 := by decide
    have hu : Gv.isU64 [((48 : Int), n)] = true := by
      simp only [Gv.isU64, List.all_cons, List.all_nil, Bool.and_true, Bool.and_eq_true, decide_eq_true_eq]; unfold Gv.u64max; omega
    have hok : ¬ [((48 : Int), n)].all Gv.okPart = true := by
      simp only [List.all_cons, List.all_nil, Gv.okPart, p48, Bool.and_true, Bool.and_eq_true, Bool.or_eq_true, decide_eq_true_eq]
      omega
    unfold Gv.pack
    rw [if_pos ⟨hu, by simp⟩, if_neg hok]
    rfl
theorem digit_at : ∀ n : Nat, n < 16 → bt (⟨#[48, 49, 50, 51, 52, 53, 54, 55, 56, 57, 97, 98, 99, 100, 101, 102]⟩ : ByteArray) (n : Int) = hexc (n : Int) := by decide +kernel
theorem digit_hex (d : Int) (h0 : 0 ≤ d) (h1 : d ≤ 15) : bt (⟨#[48, 49, 50, 51, 52, 53, 54, 55, 56, 57, 97, 98, 99, 100, 101, 102]⟩ : ByteArray) d = hexc d := by
  obtain ⟨n, rfl⟩ := Int.eq_ofNat_of_zero_le h0
  exact digit_at n (by omega)
theorem and_15 (b : Int) (h0 : 0 ≤ b) (h1 : b ≤ 255) : Go.bits .and .u8 b 15 = b % 16 := by
  obtain ⟨n, rfl⟩ := Int.eq_ofNat_of_zero_le h0
  have : ∀ n : Nat, n < 256 → Go.bits .and .u8 (n : Int) 15 = (n : Int) % 16 := by decide +kernel
  exact this n (by omega)
def parts (l : List Int) : List ByteArray := l.map fun b => strOfNums (hex2 b)
theorem join_parts (l : List Int) : Lib.join ((parts l).map (·.data.toList)) [58] = (strOfNums (txt l)).data.toList := by
  have key : ∀ (l : List Int) (b : Int), Lib.joinTail [58] ((parts (b :: l)).map (·.data.toList)) = (58 : UInt8) :: (strOfNums (txt (b :: l))).data.toList := by
    intro l
    induction l with
    | nil =>
      intro b
      simp [Lib.joinTail, parts, txt]
    | cons c l ih =>
      intro b
      have e1 : txt (b :: c :: l) = hex2 b ++ 58 :: txt (c :: l) := rfl
      have h := ih c
      have e2 : Lib.joinTail [58] ((parts (b :: c :: l)).map (·.data.toList)) = ((58 : UInt8) :: (strOfNums (hex2 b)).data.toList) ++ Lib.joinTail [58] ((parts (c :: l)).map (·.data.toList)) := by
        simp [Lib.joinTail, parts]
      rw [e2, h, e1, Gv.strOfNums_append]
      simp [strOfNums]
  cases l with
  | nil => simp [parts, Lib.join_nil, txt, strOfNums]
  | cons b l =>
    have e : (parts (b :: l)).map (·.data.toList) = (strOfNums (hex2 b)).data.toList :: (parts l).map (·.data.toList) := rfl
    rw [e, Lib.join_cons]
    cases l with
    | nil => simp [Lib.joinTail, parts, txt]
    | cons c l =>
      have e1 : txt (b :: c :: l) = hex2 b ++ 58 :: txt (c :: l) := rfl
      rw [key, e1, Gv.strOfNums_append]
      simp [strOfNums]
theorem txt_length (l : List Int) : (txt l).length ≤ 3 * l.length := by
  induction l with
  | nil => simp [txt]
  | cons b l ih =>
    cases l with
    | nil => simp [txt, hex2]
    | cons c l =>
      have e1 : txt (b :: c :: l) = hex2 b ++ 58 :: txt (c :: l) := rfl
      rw [e1]
      simp only [List.length_append, List.length_cons, hex2, List.length_nil] at *
      omega
theorem join_own (l : List Int) (hl : l.length ≤ 1000) : strings_Join.f (parts l) (⟨#[58]⟩ : ByteArray) = some (strOfNums (txt l)) := by
  have ht := txt_length l
  unfold strings_Join.f
  have e : Lib.join ((parts l).map (·.data.toList)) (⟨#[58]⟩ : ByteArray).data.toList = (strOfNums (txt l)).data.toList := join_parts l
  have hz : (strOfNums (txt l)).data.toList.length = (txt l).length := by
    rw [Array.length_toList]
    exact strOfNums_size (txt l)
  rw [e, if_pos ⟨by rw [hz]; omega, by simp only [parts, List.length_map]; omega⟩]
theorem ms_loop (s : ByteArray) (hs : s.size ≤ 1000) (d : Nat) : ∀ i : Nat, s.size - i = d → i ≤ s.size → Ev (fun k => mac_Addr_String.l0 k (parts ((bytesOf s).take i)) s (s.size : Int) (i : Int)) (strOfNums (txt (bytesOf s))) := by
  have hl : (bytesOf s).length = s.size := bytesOf_length s
  induction d with
  | zero =>
    intro i hi hi2
    rw [List.take_of_length_le (by omega)]
    refine Ev.step (f := fun k => mac_Addr_String.l0 (k + 1) (parts (bytesOf s)) s (s.size : Int) (i : Int)) (fun k => rfl) ?_
    simp only [mac_Addr_String.l0, if_neg (show ¬ (i : Int) < (s.size : Int) from by omega), join_own (bytesOf s) (by omega), Option.bind_some]
    exact Ev.now _
  | succ d ih =>
    intro i hi hi2
    have h := ih (i + 1) (by omega) (by omega)
    have hr := bt_range s (i : Int)
    have hb : bt s (i : Int) = (bytesOf s)[i] := by rw [Gv.bt_get, Int.toNat_natCast, List.getD_eq_getElem?_getD, List.getElem?_eq_getElem (by omega)]; rfl
    rw [List.take_succ_eq_append_getElem (by omega), ← hb] at h
    refine Ev.step (f := fun k => mac_Addr_String.l0 (k + 1) (parts ((bytesOf s).take i)) s (s.size : Int) (i : Int)) (fun k => rfl) ?_
    have hpl : (parts ((bytesOf s).take i)).length < 8796093022208 := by simp only [parts, List.length_map, List.length_take]; omega
    simp only [mac_Addr_String.l0, and_15 _ hr.1 hr.2, if_pos (show (i : Int) < (s.size : Int) from by omega), if_pos (show (0 : Int) ≤ (i : Int) from by omega), if_pos (show 0 ≤ bt s (i : Int) / 16 from by omega), if_pos (show bt s (i : Int) / 16 < 16 from by omega), if_pos (show 0 ≤ bt s (i : Int) % 16 from by omega), if_pos (show bt s (i : Int) % 16 < 16 from by omega), if_pos hpl,
      digit_hex (bt s (i : Int) / 16) (by omega) (by omega), digit_hex (bt s (i : Int) % 16) (by omega) (by omega), mp_wrap (n := (i : Int) + 1) (by omega) (by omega)]
    have e : parts ((bytesOf s).take i) ++ [strOfNums [hexc (bt s (i : Int) / 16), hexc (bt s (i : Int) % 16)]] = parts ((bytesOf s).take i ++ [bt s (i : Int)]) := by
      unfold parts; rw [List.map_append]; rfl
    rw [e]
    exact h
/-- The program's text of any number. -/
def textOf (n : Int) : ByteArray := if n < 281474976710656 then macText n else ⟨#[]⟩
theorem bytes6_size (n : Int) : (bytes6 n).size ≤ 6 := by
  unfold bytes6
  by_cases h : n < 281474976710656
  · rw [if_pos h, strOfNums_size, Gv.packB_length, Gv.bitsOf_length]; decide
  · rw [if_neg h]; decide
theorem text6 (n : Int) : strOfNums (txt (bytesOf (bytes6 n))) = textOf n := by
  unfold bytes6 textOf
  by_cases h : n < 281474976710656
  · rw [if_pos h, if_pos h, Gv.bytesOf_str _ (Gv.packB_range (Gv.bitsOf_bits _ _))]; rfl
  · rw [if_neg h, if_neg h]; rfl
theorem ev_mstring (n : Int) (h0 : 0 ≤ n) (h1 : n ≤ 18446744073709551615) : Ev (fun k => mac_Addr_String.f k n) (textOf n) := by
  simp only [mac_Addr_String.f, ms_bytes n h0 h1, Option.bind_some]
  have := ms_loop (bytes6 n) (by have := bytes6_size n; omega) _ 0 rfl (by omega)
  rw [text6] at this
  exact this

end Go.Proofs.Ytmdaaphjndjakad.LAll

/- An address: whether it is one, and a group's: the program's. -/
namespace Go.Proofs.Ytmdaaphjndjakad.LAll
open Go.RowKit Go.Proofs.Ytmdaaphjndjakad.PAll Go.Proofs.YtmdaaphjndjakadW.PrintWords Go.Proofs.YtmdaaphjndjakadW.PrintLast Go.Proofs.YtmdaaphjndjakadW.PrintMore Go.Proofs.Ytmdaaphjndjakad
set_option linter.unusedVariables false
set_option linter.unusedSimpArgs false

theorem mg_wrap {n : Int} (h0 : -9223372036854775808 ≤ n) (h1 : n ≤ 9223372036854775807) : wrap64 n = n := by unfold wrap64; omega
theorem mg_u64 {n : Int} (h0 : 0 ≤ n) (h1 : n ≤ 18446744073709551615) : IntKind.u64.wrap n = n := by simp [IntKind.wrap, IntKind.bits, IntKind.signed]; omega
theorem mg_may (n : Int) : mac_Addr_May.f n = some (decide (n < 281474976710656)) := by
  unfold mac_Addr_May.f
  have : (n ≤ 281474976710655) = (n < 281474976710656) := by apply propext; omega
  simp [this]
theorem mg_group (n : Int) (h0 : 0 ≤ n) (h1 : n < 281474976710656) : mac_Addr_Group.f n = some (n / 1099511627776 % 2 == 1) := by
  unfold mac_Addr_Group.f
  rw [mg_may, Option.bind_some, if_pos (by simpa using h1), Gv.and_one _ (by omega) (by omega)]

end Go.Proofs.Ytmdaaphjndjakad.LAll

/- An address: whether it is one, a group's: the document's. -/
namespace Go.Proofs.Ytmdaaphjndjakad.LAll
open Go.RowKit Go.Proofs.Ytmdaaphjndjakad.PAll Go.Proofs.YtmdaaphjndjakadW.PrintWords Go.Proofs.YtmdaaphjndjakadW.PrintLast Go.Proofs.YtmdaaphjndjakadW.PrintMore Go.Proofs.Ytmdaaphjndjakad
set_option linter.unusedVariables false
set_option linter.unusedSimpArgs false

theorem rm_may (n : Int) : carouselref02_May.f n = some (decide (n < 281474976710656)) := rfl
theorem rm_group (n : Int) (h0 : 0 ≤ n) (h1 : n < 281474976710656) : carouselref02_Group.f n = some (n / 1099511627776 % 2 == 1) := by
  unfold carouselref02_Group.f
  rw [rm_may, Option.bind_some, if_pos (by simpa using h1), Int.tdiv_eq_ediv_of_nonneg h0, mg_u64 (by omega) (by omega), Int.tmod_eq_emod_of_nonneg (by omega)]

end Go.Proofs.Ytmdaaphjndjakad.LAll

/- The document's Pack, as printed: it comes to the plain word pack. -/
namespace Go.Proofs.Ytmdaaphjndjakad.LAll
open Go.RowKit Go.Proofs.Ytmdaaphjndjakad.PAll Go.Proofs.YtmdaaphjndjakadW.PrintWords Go.Proofs.YtmdaaphjndjakadW.PrintLast Go.Proofs.YtmdaaphjndjakadW.PrintMore Go.Proofs.Ytmdaaphjndjakad
set_option linter.unusedVariables false
set_option linter.unusedSimpArgs false

theorem wrap_id {n : Int} (h0 : -9223372036854775808 ≤ n) (h1 : n ≤ 9223372036854775807) : wrap64 n = n := by unfold wrap64; omega
theorem u64wrap_id {n : Int} (h0 : 0 ≤ n) (h1 : n ≤ 18446744073709551615) : IntKind.u64.wrap n = n := by simp [IntKind.wrap, IntKind.bits, IntKind.signed]; omega
theorem div_pow_range (v : Int) (m : Nat) (h0 : 0 ≤ v) (h1 : v ≤ 18446744073709551615) : 0 ≤ v / 2 ^ m ∧ v / 2 ^ m ≤ 18446744073709551615 :=
  ⟨Int.ediv_nonneg h0 (Int.le_of_lt (Int.pow_pos (by decide))), Int.le_trans (Int.ediv_le_self _ h0) h1⟩
theorem div_pow_succ (v : Int) (m : Nat) : v / 2 ^ m / 2 = v / 2 ^ (m + 1) := by
  rw [Int.ediv_ediv_of_nonneg (Int.le_of_lt (Int.pow_pos (by decide))), Int.pow_succ]

theorem set_mid (d : Nat) (x y : Int) (l : List Int) : (List.replicate (d + 1) x ++ l).set d y = List.replicate d x ++ y :: l := by
  rw [List.replicate_succ', List.append_assoc, List.set_append_right _ _ (by simp)]
  simp

theorem ev_bits_loop (n : Nat) (v : Int) (hn : n ≤ 64) (h0 : 0 ≤ v) (h1 : v ≤ 18446744073709551615) (d : Nat) (hd : d ≤ n) :
    Ev (fun k => carouselref01_bits.l0 k (v / 2 ^ (n - d)) (List.replicate d 0 ++ (Gv.bitsOf n v).drop d) ((d : Int) - 1)) (Gv.bitsOf n v, (v / 2 ^ n == 0)) := by
  induction d with
  | zero =>
    refine Ev.step (f := fun _ => some (Gv.bitsOf n v, (v / 2 ^ n == 0))) (fun k => ?_) (Ev.now _)
    simp [carouselref01_bits.l0]
  | succ d ih =>
    have hlen : (Gv.bitsOf n v).length = n := Gv.bitsOf_length n v
    refine Ev.step (fun k => ?_) (ih (by omega))
    simp only [carouselref01_bits.l0]
    have hx := div_pow_range v (n - (d + 1)) h0 h1
    rw [if_pos (by omega), if_pos (by omega), if_pos (by simp [hlen]; omega)]
    have e1 : IntKind.u64.wrap (Int.tdiv (v / 2 ^ (n - (d + 1))) 2) = v / 2 ^ (n - d) := by
      rw [Int.tdiv_eq_ediv_of_nonneg hx.1, div_pow_succ, show n - (d + 1) + 1 = n - d from by omega]
      have := div_pow_range v (n - d) h0 h1
      exact u64wrap_id this.1 this.2
    have e2 : wrap64 (((d + 1 : Nat) : Int) - 1 - 1) = (d : Int) - 1 := by rw [wrap_id (by omega) (by omega)]; omega
    have e3 : (((d + 1 : Nat) : Int) - 1).toNat = d := by omega
    have e4 : wrap64 (Int.tmod (v / 2 ^ (n - (d + 1))) 2) = (v / 2 ^ (n - 1 - d)) % 2 := by
      rw [Int.tmod_eq_emod_of_nonneg hx.1, wrap_id (by omega) (by omega), show n - (d + 1) = n - 1 - d from by omega]
    have e5 : (Gv.bitsOf n v).drop d = (v / 2 ^ (n - 1 - d)) % 2 :: (Gv.bitsOf n v).drop (d + 1) := by
      rw [List.drop_eq_getElem_cons (by rw [hlen]; omega)]
      simp [Gv.bitsOf]
    rw [e1, e2, e3, e4, set_mid, e5]

theorem ev_bits (n : Nat) (v : Int) (hn : n ≤ 64) (hn1 : 1 ≤ n) (h0 : 0 ≤ v) (h1 : v ≤ 18446744073709551615) : Ev (fun k => carouselref01_bits.f k v n) (Gv.bitsOf n v, (v / 2 ^ n == 0)) := by
  have h := ev_bits_loop n v hn h0 h1 n (Nat.le_refl _)
  refine Ev.congr (fun k => ?_) h
  unfold carouselref01_bits.f
  rw [if_pos (by omega), if_pos (by simp; omega), wrap_id (by omega) (by omega)]
  simp [List.drop_of_length_le (Nat.le_of_eq (Gv.bitsOf_length n v))]

/-- The number of the first j bits. -/
def firstBits (m : List Int) : Nat → Int
  | 0 => 0
  | j + 1 => firstBits m j * 2 + m.getD j 0
theorem firstBits_range {m : List Int} (hb : Gv.IsBits m) (j : Nat) : 0 ≤ firstBits m j ∧ firstBits m j < 2 ^ j := by
  induction j with
  | zero => simp [firstBits]
  | succ j ih =>
    have := Gv.getD_bit hb j
    simp only [firstBits, Int.pow_succ]
    omega
theorem firstBits_byte {m : List Int} (hb : Gv.IsBits m) : firstBits m 8 % 256 = Gv.byteVal m := by
  have h0 := Gv.getD_bit hb 0; have h1 := Gv.getD_bit hb 1; have h2 := Gv.getD_bit hb 2; have h3 := Gv.getD_bit hb 3; have h4 := Gv.getD_bit hb 4; have h5 := Gv.getD_bit hb 5; have h6 := Gv.getD_bit hb 6; have h7 := Gv.getD_bit hb 7
  simp only [firstBits]
  unfold Gv.byteVal
  omega
/-- One byte. -/
theorem ev_byte (all : List Int) (hb : Gv.IsBits all) (hal : all.length ≤ 1000000) (out : List Int) (i : Nat) (hi : i + 8 ≤ all.length) (r : ByteArray × Int) (ho : out.length < 1000000)
    (hk : Ev (fun k => carouselref01_Pack.l1 k all (out ++ [Gv.byteVal (all.drop i)]) ((i : Int) + 8)) r) (d : Nat) : ∀ j : Nat, 8 - j = d → j ≤ 8 →
    Ev (fun k => carouselref01_Pack.l2 k all out i (firstBits (all.drop i) j) (j : Int)) r := by
  induction d with
  | zero =>
    intro j hj hj2
    obtain rfl : j = 8 := by omega
    refine Ev.step (fun k => ?_) hk
    simp only [carouselref01_Pack.l2]
    rw [if_neg (by omega), if_pos (by omega), wrap_id (by omega) (by omega), firstBits_byte (hb.drop i)]
  | succ d ih =>
    intro j hj hj2
    have h := ih (j + 1) (by omega) (by omega)
    have hr := firstBits_range (hb.drop i) j
    have hbit := Gv.getD_bit (hb.drop i) j
    have hp : (2 : Int) ^ j ≤ 2 ^ 7 := by
      have := Nat.pow_le_pow_right (show 0 < 2 by decide) (show j ≤ 7 by omega)
      exact_mod_cast this
    refine Ev.step (fun k => ?_) h
    simp only [carouselref01_Pack.l2]
    have hget : rd all (wrap64 ((i : Int) + j)) = (all.drop i).getD j 0 := by
      rw [wrap_id (by omega) (by omega)]
      unfold rd
      rw [show ((i : Int) + j).toNat = i + j from by omega]
      simp [List.getD_eq_getElem?_getD, List.getElem?_drop]
    rw [if_pos (by omega), if_pos (by rw [wrap_id (by omega) (by omega)]; omega), if_pos (by rw [wrap_id (by omega) (by omega)]; omega), hget]
    rw [wrap_id (n := firstBits (all.drop i) j * 2) (by omega) (by omega), wrap_id (n := firstBits (all.drop i) j * 2 + _) (by omega) (by omega), wrap_id (n := (j : Int) + 1) (by omega) (by omega)]
    rfl

theorem ev_bytes (all : List Int) (hb : Gv.IsBits all) (hal : all.length ≤ 1000000) (h8 : all.length % 8 = 0) (d : Nat) : ∀ j : Nat, all.length / 8 - j = d → j ≤ all.length / 8 →
    Ev (fun k => carouselref01_Pack.l1 k all ((Gv.packB all).take j) ((8 * j : Nat) : Int)) (strOfNums (Gv.packB all), 0) := by
  have hpl : (Gv.packB all).length = all.length / 8 := by rw [Gv.packB_length]; omega
  induction d with
  | zero =>
    intro j hj hj2
    refine Ev.step (f := fun _ => some (strOfNums (Gv.packB all), 0)) (fun k => ?_) (Ev.now _)
    simp only [carouselref01_Pack.l1]
    rw [if_neg (by omega), List.take_of_length_le (by omega)]
  | succ d ih =>
    intro j hj hj2
    have h := ih (j + 1) (by omega) (by omega)
    have htake : (Gv.packB all).take (j + 1) = (Gv.packB all).take j ++ [Gv.byteVal (all.drop (8 * j))] := by
      rw [List.take_succ_eq_append_getElem (by omega)]
      congr 1
      simp [Gv.packB]
    rw [htake, show ((8 * (j + 1) : Nat) : Int) = ((8 * j : Nat) : Int) + 8 from by omega] at h
    have h2 := ev_byte all hb hal ((Gv.packB all).take j) (8 * j) (by omega) _ (by rw [List.length_take]; omega) h 8 0 rfl (by omega)
    refine Ev.step (fun k => ?_) h2
    simp only [carouselref01_Pack.l1]
    rw [if_pos (by omega)]
    rfl

theorem rd_eq {l : List S106} {i : Nat} (h : i < l.length) : rd_T106 l (i : Int) = l[i] := by
  unfold rd_T106
  simp [List.getD_eq_getElem?_getD, h]

def pairs (l : List S106) : List (Int × Int) := l.map fun x => (x.f0, x.f1)
def Wf (l : List S106) : Prop := ∀ x ∈ l, -9223372036854775808 ≤ x.f0 ∧ x.f0 ≤ 9223372036854775807 ∧ 0 ≤ x.f1 ∧ x.f1 ≤ 18446744073709551615

theorem allBits_snoc (l : List (Int × Int)) (k : Nat) (h : k < l.length) : Gv.allBits (l.take (k + 1)) = Gv.allBits (l.take k) ++ Gv.bitsOf (l[k]).1.toNat (l[k]).2 := by
  rw [List.take_succ_eq_append_getElem h]
  simp only [Gv.allBits, List.flatMap_append]
  simp
theorem allBits_len (l : List (Int × Int)) (h : l.all Gv.okPart = true) : (Gv.allBits l).length ≤ 64 * l.length := by
  induction l with
  | nil => simp [Gv.allBits]
  | cons p l ih =>
    simp only [List.all_cons, Bool.and_eq_true] at h
    have := ih h.2
    have hp := h.1
    simp only [Gv.okPart, Bool.and_eq_true, decide_eq_true_eq] at hp
    simp only [Gv.allBits, List.flatMap_cons, List.length_append, Gv.bitsOf_length, List.length_cons] at this ⊢
    omega
theorem allBits_bits (l : List (Int × Int)) : Gv.IsBits (Gv.allBits l) := by
  intro b hb
  simp only [Gv.allBits, List.mem_flatMap] at hb
  obtain ⟨p, _, hb⟩ := hb
  exact Gv.bitsOf_bits _ _ b hb

/-- What the plain word says of parts that are in range. -/
def packR (l : List (Int × Int)) : ByteArray × Int := if l.all Gv.okPart = true then (if (Gv.allBits l).length % 8 = 0 then (strOfNums (Gv.packB (Gv.allBits l)), 0) else (⟨#[]⟩, 3)) else (⟨#[]⟩, 4)

theorem ev_packloop (l : List S106) (hw : Wf l) (hl : l.length ≤ 1000) (d : Nat) : ∀ i : Nat, l.length - i = d → i ≤ l.length → ((pairs l).take i).all Gv.okPart = true →
    Ev (fun k => carouselref01_Pack.l0 k l (Gv.allBits ((pairs l).take i)) (i : Int)) (packR (pairs l)) := by
  have hpl : (pairs l).length = l.length := by simp [pairs]
  induction d with
  | zero =>
    intro i hi hi2 hok
    have hil : i = l.length := by omega
    rw [List.take_of_length_le (by omega)] at hok ⊢
    have hlen := allBits_len _ hok
    by_cases h8 : (Gv.allBits (pairs l)).length % 8 = 0
    · have h := ev_bytes (Gv.allBits (pairs l)) (allBits_bits _) (by omega) h8 _ 0 rfl (by omega)
      have hr : packR (pairs l) = (strOfNums (Gv.packB (Gv.allBits (pairs l))), 0) := by unfold packR; rw [if_pos hok, if_pos h8]
      rw [hr]
      refine Ev.step (fun k => ?_) h
      simp only [carouselref01_Pack.l0]
      rw [if_neg (by omega), if_pos (by omega)]
      simp
    · have hr : packR (pairs l) = (⟨#[]⟩, 3) := by unfold packR; rw [if_pos hok, if_neg h8]
      rw [hr]
      refine Ev.step (f := fun _ => some (⟨#[]⟩, 3)) (fun k => ?_) (Ev.now _)
      simp only [carouselref01_Pack.l0]
      rw [if_neg (by omega), if_neg (by omega)]
  | succ d ih =>
    intro i hi hi2 hok
    have hil : i < l.length := by omega
    have hrd := rd_eq hil
    have hwi := hw l[i] (List.getElem_mem hil)
    have hpi : (pairs l)[i]'(by omega) = (l[i].f0, l[i].f1) := by simp [pairs]
    have hbad : ∀ (hb : Gv.okPart (l[i].f0, l[i].f1) = false), packR (pairs l) = (⟨#[]⟩, 4) := by
      intro hb
      unfold packR
      rw [if_neg]
      intro hall
      have := List.all_eq_true.1 hall (l[i].f0, l[i].f1) (by rw [← hpi]; exact List.getElem_mem _)
      rw [hb] at this
      exact absurd this (by simp)
    generalize hx : l[i].f0 = x at *
    generalize hv : l[i].f1 = v at *
    by_cases hr : 1 ≤ x ∧ x ≤ 64
    · obtain ⟨n, rfl⟩ := Int.eq_ofNat_of_zero_le (show 0 ≤ x by omega)
      have hbits := ev_bits n v (by omega) (by omega) hwi.2.2.1 hwi.2.2.2
      have hstep : ∀ r, Ev (fun k => (carouselref01_bits.f k v n).bind fun bt => (if bt.2 = true then (if (Gv.allBits ((pairs l).take i)).length + bt.1.length < 17592186044416 then (carouselref01_Pack.l0 k l (Gv.allBits ((pairs l).take i) ++ bt.1) (wrap64 ((i : Int) + 1))) else (none)) else (some ((⟨#[]⟩ : ByteArray), 4)))) r →
          Ev (fun k => carouselref01_Pack.l0 k l (Gv.allBits ((pairs l).take i)) (i : Int)) r := by
        intro r h
        refine Ev.step (f := fun k => carouselref01_Pack.j1 k l (Gv.allBits ((pairs l).take i)) (i : Int) false) (fun k => ?_) (Ev.step (fun k => ?_) h)
        · simp only [carouselref01_Pack.l0]
          rw [if_pos (by omega), if_pos (by omega), hrd, hx, if_neg (by omega), show decide ((n : Int) > 64) = false from by simp; omega]
        · simp only [carouselref01_Pack.j1]
          rw [if_neg (by simp), if_pos (by omega), if_pos (by omega), hrd, hx, hv]
      apply hstep
      have hlen := allBits_len _ hok
      by_cases h0 : v / 2 ^ n = 0
      · have hok1 : Gv.okPart ((n : Int), v) = true := by simp [Gv.okPart, h0]; omega
        have hokn : ((pairs l).take (i + 1)).all Gv.okPart = true := by
          rw [List.take_succ_eq_append_getElem (by omega), List.all_append, hok, hpi]
          simp [hok1]
        have h := ih (i + 1) (by omega) (by omega) hokn
        have hsn := allBits_snoc (pairs l) i (by omega)
        rw [hpi, Int.toNat_natCast] at hsn
        simp only at hsn
        rw [hsn] at h
        refine Ev.bind hbits (Ev.congr (fun k => ?_) h)
        simp only [h0, beq_self_eq_true, if_true]
        rw [if_pos (by rw [Gv.bitsOf_length]; have : ((pairs l).take i).length ≤ i := List.length_take_le _ _; omega), wrap_id (by omega) (by omega)]
        rfl
      · have hb : Gv.okPart ((n : Int), v) = false := by
          have h64 : n ≠ 64 := by
            intro e
            subst e
            have := hwi.2.2.2
            have := hwi.2.2.1
            omega
          simp [Gv.okPart, h0]; omega
        rw [hbad hb]
        refine Ev.bind hbits (Ev.congr (fun k => ?_) (Ev.now _))
        have : (v / 2 ^ n == 0) = false := by simpa using h0
        simp only [this]
        rw [if_neg (by simp)]
    · have hb : Gv.okPart (x, v) = false := by
        by_cases h1 : 1 ≤ x
        · have : ¬ x ≤ 64 := fun h => hr ⟨h1, h⟩
          simp [Gv.okPart, this]
        · simp [Gv.okPart, h1]
      rw [hbad hb]
      refine Ev.step (f := fun k => carouselref01_Pack.j1 k l (Gv.allBits ((pairs l).take i)) (i : Int) true) (fun k => ?_) (Ev.step (f := fun _ => some (⟨#[]⟩, 4)) (fun k => ?_) (Ev.now _))
      · simp only [carouselref01_Pack.l0]
        rw [if_pos (by omega), if_pos (by omega), hrd, hx]
        by_cases h1 : x < 1
        · rw [if_pos h1]
        · rw [if_neg h1, show decide (x > 64) = true from by simp; omega]
      · simp only [carouselref01_Pack.j1]
        rw [if_pos trivial]

/-- The document's Pack. -/
theorem ev_refpack (l : List S106) (hw : Wf l) (hl : l.length ≤ 1000) : Ev (fun k => carouselref01_Pack.f k l) (packR (pairs l)) := by
  have h := ev_packloop l hw hl _ 0 rfl (by omega) (by simp)
  simp only [List.take_zero] at h
  exact h

theorem pack_eq (l : List (Int × Int)) (hu : Gv.isU64 l = true) (hl : l.length ≤ 1000000) : Gv.pack l = some (packR l) := by
  unfold Gv.pack packR
  rw [if_pos ⟨hu, hl⟩]
  by_cases h1 : l.all Gv.okPart = true
  · rw [if_pos h1, if_pos h1]
    by_cases h2 : (Gv.allBits l).length % 8 = 0
    · rw [if_pos h2, if_pos h2]; rfl
    · rw [if_neg h2, if_neg h2]; rfl
  · rw [if_neg h1, if_neg h1]; rfl

end Go.Proofs.Ytmdaaphjndjakad.LAll

/- Put of layer 1, the document's: a number as so many bytes. -/
namespace Go.Proofs.Ytmdaaphjndjakad.LAll
open Go.RowKit Go.Proofs.Ytmdaaphjndjakad.PAll Go.Proofs.YtmdaaphjndjakadW.PrintWords Go.Proofs.YtmdaaphjndjakadW.PrintLast Go.Proofs.YtmdaaphjndjakadW.PrintMore Go.Proofs.Ytmdaaphjndjakad
set_option linter.unusedVariables false
set_option linter.unusedSimpArgs false

theorem pu_wrap {n : Int} (h0 : -9223372036854775808 ≤ n) (h1 : n ≤ 9223372036854775807) : wrap64 n = n := by unfold wrap64; omega
theorem pu_u64 {n : Int} (h0 : 0 ≤ n) (h1 : n ≤ 18446744073709551615) : IntKind.u64.wrap n = n := by simp [IntKind.wrap, IntKind.bits, IntKind.signed]; omega
theorem rm_put (n m : Int) (w : Int) (hw : wrap64 (8 * m) = w) (hw0 : 0 ≤ w) (hw1 : w ≤ 64) (h0 : 0 ≤ n) (h1 : n ≤ 18446744073709551615) (s : ByteArray) (hp : Gv.pack [(w, n)] = some (s, 0)) : Ev (fun k => carouselref01_Put.f k n m) s := by
  have h := ev_refpack [(⟨w, n⟩ : S106)] (by intro x hx; simp at hx; subst hx; exact ⟨by show (-9223372036854775808 : Int) ≤ w; omega, by show w ≤ 9223372036854775807; omega, h0, h1⟩) (by simp)
  have he := pack_eq [(w, n)] (by simp only [Gv.isU64, List.all_cons, List.all_nil, Bool.and_true, Bool.and_eq_true, decide_eq_true_eq]; unfold Gv.u64max; omega) (by simp)
  rw [hp] at he
  have e : packR (pairs [(⟨w, n⟩ : S106)]) = (s, 0) := (Option.some.inj he).symm
  rw [e] at h
  simp only [carouselref01_Put.f, hw]
  exact Ev.bind h (f := fun k b => some b.1) (Ev.now _)
theorem rm_put6 (n : Int) (h0 : 0 ≤ n) (h1 : n < 281474976710656) : Ev (fun k => carouselref01_Put.f k n 6) (strOfNums (Gv.packB (Gv.bitsOf 48 n))) :=
  rm_put n 6 48 ((pu_wrap (n := 8 * 6) (by decide) (by decide)).trans (by decide)) (by decide) (by decide) h0 (by omega) _ (Gv.pack_six n h0 h1)
theorem rm_put2 (n : Int) (h0 : 0 ≤ n) (h1 : n ≤ 65535) : Ev (fun k => carouselref01_Put.f k n 2) (strOfNums (Gv.packB (Gv.bitsOf 16 n))) :=
  rm_put n 2 16 ((pu_wrap (n := 8 * 2) (by decide) (by decide)).trans (by decide)) (by decide) (by decide) h0 (by omega) _ (Gv.pack_two n h0 h1)

end Go.Proofs.Ytmdaaphjndjakad.LAll

/- An address: whether it is one, a group's, its bytes; numbers of two bytes: the document's. -/
namespace Go.Proofs.Ytmdaaphjndjakad.LAll
open Go.RowKit Go.Proofs.Ytmdaaphjndjakad.PAll Go.Proofs.YtmdaaphjndjakadW.PrintWords Go.Proofs.YtmdaaphjndjakadW.PrintLast Go.Proofs.YtmdaaphjndjakadW.PrintMore Go.Proofs.Ytmdaaphjndjakad
set_option linter.unusedVariables false
set_option linter.unusedSimpArgs false

theorem rm_bytes (n : Int) (h0 : 0 ≤ n) (h1 : n < 281474976710656) : Ev (fun k => carouselref02_Bytes.f k n) (strOfNums (Gv.packB (Gv.bitsOf 48 n))) := by
  simp only [carouselref02_Bytes.f, rm_may, Option.bind_some, decide_eq_true h1, if_true]
  exact Ev.bind (rm_put6 n h0 h1) (f := fun k t => some t) (Ev.now _)

end Go.Proofs.Ytmdaaphjndjakad.LAll

/- An address's bytes and text, the document's: they come to the same plain words. -/
namespace Go.Proofs.Ytmdaaphjndjakad.LAll
open Go.RowKit Go.Proofs.Ytmdaaphjndjakad.PAll Go.Proofs.YtmdaaphjndjakadW.PrintWords Go.Proofs.YtmdaaphjndjakadW.PrintLast Go.Proofs.YtmdaaphjndjakadW.PrintMore Go.Proofs.Ytmdaaphjndjakad
set_option linter.unusedVariables false
set_option linter.unusedSimpArgs false

theorem rs_bytes (n : Int) (h0 : 0 ≤ n) : Ev (fun k => carouselref02_Bytes.f k n) (bytes6 n) := by
  unfold bytes6
  by_cases h : n < 281474976710656
  · rw [if_pos h]; exact rm_bytes n h0 h
  · rw [if_neg h]
    simp only [carouselref02_Bytes.f, rm_may, Option.bind_some, decide_eq_false h, Bool.false_eq_true, if_false]
    exact Ev.now _
theorem rs_char (d : Int) (h0 : 0 ≤ d) (h1 : d ≤ 15) : carouselref02_char.f d = some (hexc d) := by
  unfold carouselref02_char.f hexc
  by_cases h : d < 10
  · rw [if_pos h, if_pos h, mp_wrap (by omega) (by omega)]; congr 1; omega
  · rw [if_neg h, if_neg h, mp_wrap (by omega) (by omega)]; congr 1; omega
theorem txt_snoc (l : List Int) (b : Int) (h : l ≠ []) : txt (l ++ [b]) = txt l ++ 58 :: hex2 b := by
  induction l with
  | nil => exact absurd rfl h
  | cons a l ih =>
    cases l with
    | nil => rfl
    | cons c l =>
      have e1 : txt (a :: c :: l) = hex2 a ++ 58 :: txt (c :: l) := rfl
      have e2 : txt ((a :: c :: l) ++ [b]) = hex2 a ++ 58 :: txt ((c :: l) ++ [b]) := rfl
      rw [e1, e2, ih (by simp)]
      simp
theorem rs_j1 (s out : ByteArray) (i : Nat) (hi : i < s.size) (hs : s.size ≤ 1000) (ho : out.size ≤ 10000) (r : ByteArray) (h : Ev (fun k => carouselref02_String.l0 k s (out ++ strOfNums (hex2 (bt s (i : Int)))) ((i + 1 : Nat) : Int)) r) :
    Ev (fun k => carouselref02_String.j1 k s out (i : Int)) r := by
  have hr := bt_range s (i : Int)
  refine Ev.step (f := fun k => carouselref02_String.j1 (k + 1) s out (i : Int)) (fun k => rfl) ?_
  have z2 : (strOfNums [hexc (bt s (i : Int) / 16), hexc (bt s (i : Int) % 16)]).size = 2 := by rw [strOfNums_size]; rfl
  simp only [carouselref02_String.j1, if_pos (show (0 : Int) ≤ (i : Int) from by omega), if_pos (show (i : Int) < (s.size : Int) from by omega), mp_wrap (n := bt s (i : Int)) (by omega) (by omega), Int.tdiv_eq_ediv_of_nonneg hr.1, Int.tmod_eq_emod_of_nonneg hr.1, mp_wrap (n := bt s (i : Int) / 16) (by omega) (by omega), rs_char (bt s (i : Int) / 16) (by omega) (by omega), rs_char (bt s (i : Int) % 16) (by omega) (by omega), Option.bind_some, z2, if_pos (show out.size + 2 ≤ 9223372036854775807 from by omega), mp_wrap (n := (i : Int) + 1) (by omega) (by omega)]
  exact h
theorem rs_loop (s : ByteArray) (hs : s.size ≤ 1000) (d : Nat) : ∀ i : Nat, s.size - i = d → i ≤ s.size → Ev (fun k => carouselref02_String.l0 k s (strOfNums (txt ((bytesOf s).take i))) (i : Int)) (strOfNums (txt (bytesOf s))) := by
  have hl : (bytesOf s).length = s.size := bytesOf_length s
  induction d with
  | zero =>
    intro i hi hi2
    rw [List.take_of_length_le (by omega)]
    refine Ev.step (f := fun k => carouselref02_String.l0 (k + 1) s (strOfNums (txt (bytesOf s))) (i : Int)) (fun k => rfl) ?_
    simp only [carouselref02_String.l0, if_neg (show ¬ (i : Int) < (s.size : Int) from by omega)]
    exact Ev.now _
  | succ d ih =>
    intro i hi hi2
    have h := ih (i + 1) (by omega) (by omega)
    have hb : bt s (i : Int) = (bytesOf s)[i] := by rw [Gv.bt_get, Int.toNat_natCast, List.getD_eq_getElem?_getD, List.getElem?_eq_getElem (by omega)]; rfl
    rw [List.take_succ_eq_append_getElem (by omega), ← hb] at h
    have hz : (strOfNums (txt ((bytesOf s).take i))).size ≤ 3 * i := by
      rw [strOfNums_size]
      have := txt_length ((bytesOf s).take i)
      rw [List.length_take] at this
      omega
    refine Ev.step (f := fun k => carouselref02_String.l0 (k + 1) s (strOfNums (txt ((bytesOf s).take i))) (i : Int)) (fun k => rfl) ?_
    simp only [carouselref02_String.l0, if_pos (show (i : Int) < (s.size : Int) from by omega)]
    by_cases h0 : i = 0
    · subst h0
      simp only [if_neg (show ¬ ((0 : Nat) : Int) > 0 from by omega)]
      refine rs_j1 s _ 0 (by omega) hs (by omega) _ ?_
      have e : strOfNums (txt ((bytesOf s).take 0)) ++ strOfNums (hex2 (bt s ((0 : Nat) : Int))) = strOfNums (txt ((bytesOf s).take 0 ++ [bt s ((0 : Nat) : Int)])) := by
        rw [← Gv.strOfNums_append]; rfl
      rw [e]
      exact h
    · simp only [if_pos (show (i : Int) > 0 from by omega), if_pos (show (strOfNums (txt ((bytesOf s).take i))).size + 1 ≤ 9223372036854775807 from by omega)]
      refine rs_j1 s _ i (by omega) hs (by rw [ByteArray.size_append]; show _ + 1 ≤ _; omega) _ ?_
      have hne : (bytesOf s).take i ≠ [] := by
        intro e
        have := congrArg List.length e
        rw [List.length_take, List.length_nil] at this
        omega
      have e : (strOfNums (txt ((bytesOf s).take i)) ++ (⟨#[58]⟩ : ByteArray)) ++ strOfNums (hex2 (bt s (i : Int))) = strOfNums (txt ((bytesOf s).take i ++ [bt s (i : Int)])) := by
        rw [txt_snoc _ _ hne, Gv.strOfNums_append, ByteArray.append_assoc]
        congr 1
      rw [e]
      exact h
theorem ev_rstring (n : Int) (h0 : 0 ≤ n) : Ev (fun k => carouselref02_String.f k n) (textOf n) := by
  simp only [carouselref02_String.f]
  refine Ev.bind (rs_bytes n h0) ?_
  have := rs_loop (bytes6 n) (by have := bytes6_size n; omega) _ 0 rfl (by omega)
  rw [text6] at this
  exact this

end Go.Proofs.Ytmdaaphjndjakad.LAll

namespace Go.Proofs.Ytmdaaphjndjakad.Pure
open Go.RowKit Go.Proofs.Ytmdaaphjndjakad.PAll Go.Proofs.YtmdaaphjndjakadW.PrintWords Go.Proofs.YtmdaaphjndjakadW.PrintLast Go.Proofs.YtmdaaphjndjakadW.PrintMore Go.Proofs.Ytmdaaphjndjakad Go.Proofs.Ytmdaaphjndjakad.LAll
set_option linter.unusedVariables false
set_option linter.unusedSimpArgs false

theorem mt_awake : Ev (fun k => carousellaw02_Awake.f k) true :=
  Ev.of carousellaw02_Awake.mono (k := 60) (by decide +kernel)
theorem own_group (n : Int) (h0 : 0 ≤ n) (h1 : n ≤ 18446744073709551615) : mac_Addr_Group.f n = carouselref02_Group.f n := by
  by_cases h : n < 281474976710656
  · rw [mg_group n h0 h, rm_group n h0 h]
  · unfold mac_Addr_Group.f carouselref02_Group.f
    rw [mg_may, rm_may, decide_eq_false h]
    simp
theorem some_group (n : Int) (h0 : 0 ≤ n) : ∃ b, carouselref02_Group.f n = some b := by
  by_cases h : n < 281474976710656
  · exact ⟨_, rm_group n h0 h⟩
  · refine ⟨false, ?_⟩
    unfold carouselref02_Group.f
    rw [rm_may, decide_eq_false h]
    simp

theorem MacTells : carousellaw02_MacTells.Pure := by
  intro n w0
  have hn : 0 ≤ n ∧ n ≤ 18446744073709551615 := by
    have h' : IntKind.u64.min ≤ n ∧ n ≤ IntKind.u64.max := by simpa [Lit.wf] using w0
    exact h'
  have hgo : Ev (fun k => carousellaw02_MacTells.f k n) true := by
    obtain ⟨b, hb⟩ := some_group n hn.1
    simp only [carousellaw02_MacTells.f]
    refine Ev.bind mt_awake ?_
    simp only [if_true, mg_may, rm_may, Option.bind_some, beq_self_eq_true, own_group n hn.1 hn.2, hb, ms_bytes n hn.1 hn.2]
    refine Ev.bind (rs_bytes n hn.1) ?_
    simp only [if_true]
    refine Ev.bind (ev_mstring n hn.1 hn.2) ?_
    refine Ev.bind (ev_rstring n hn.1) ?_
    refine Ev.congr (fun k => ?_) (Ev.now true)
    simp
  exact hgo.rounds

end Go.Proofs.Ytmdaaphjndjakad.Pure
