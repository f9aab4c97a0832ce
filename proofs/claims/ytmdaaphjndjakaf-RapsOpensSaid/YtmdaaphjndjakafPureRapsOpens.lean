/- The law RapsOpens holds: the message of any bytes, at any level, or what is wrong with them, is the document's: for every input. -/
import Derived.Test.YtmdaaphjndjakafVRapsOpensb
import Derived.Test.YtmdaaphjndjakafPRapsOpensx3
import Derived.Test.YtmdaaphjndjakafPRapsOpensx4
import Derived.Test.YtmdaaphjndjakafPRapsOpensx5
import Derived.Test.YtmdaaphjndjakafPRapsOpensx6
import Derived.Test.YtmdaaphjndjakafPRapsOpensx7
import Derived.Test.YtmdaaphjndjakafPRapsOpensx8
import Derived.Test.YtmdaaphjndjakafPRapsOpensx10
import Derived.Test.YtmdaaphjndjakafPRapsOpensx9
import Derived.Test.YtmdaaphjndjakafPRapsOpensx11
import Derived.Test.YtmdaaphjndjakafPRapsOpensx12
-- merged out of the texts of this work that it leads to

/- Plain words on bits: the values of parts of a string's bits; how bits of numbers fall apart and go together. No program in sight. -/
namespace Go.Proofs.Ytmdaaphjndjakaf.Gv
open Go.RowKit Go.Proofs.YtmdaaphjndjakafW.PrintWords
set_option linter.unusedVariables false

/-- The number of bits, the highest first. -/
def valOf (l : List Int) : Int := l.foldl (fun v b => v * 2 + b) 0
/-- All bits of a string. -/
def sBits (s : ByteArray) : List Int := (bytesOf s).flatMap fun b => bitsOf 8 b
def sumW (ws : List Int) : Int := ws.foldl (· + ·) 0
def okW (ws : List Int) : Bool := ws.all fun w => decide (1 ≤ w) && decide (w ≤ 64)
/-- The values of parts of such widths. -/
def vals : List Int → List Int → List Int
  | _, [] => []
  | bits, w :: ws => valOf (bits.take w.toNat) :: vals (bits.drop w.toNat) ws
/-- What Split comes to. -/
def split (s : ByteArray) (ws : List Int) : List Int × ByteArray × Int :=
  if okW ws = true then
    if sumW ws % 8 = 0 then
      if sumW ws / 8 > (s.size : Int) then ([], ⟨#[]⟩, 1) else (vals (sBits s) ws, s.extract (sumW ws / 8).toNat s.size, 0)
    else ([], ⟨#[]⟩, 3)
  else ([], ⟨#[]⟩, 4)

theorem foldl_val (l : List Int) (a : Int) : l.foldl (fun v b => v * 2 + b) a = a * 2 ^ l.length + valOf l := by
  induction l generalizing a with
  | nil => simp [valOf]
  | cons b l ih =>
    have e : valOf (b :: l) = b * 2 ^ l.length + valOf l := by
      show l.foldl (fun v b => v * 2 + b) (0 * 2 + b) = _
      rw [ih]; simp
    rw [List.foldl_cons, ih, e, List.length_cons, Int.pow_succ, Int.add_mul, Int.mul_assoc, Int.mul_comm 2 (2 ^ l.length), Int.add_assoc]
/-- From behind. -/
theorem rev_ind {P : List Int → Prop} (h0 : P []) (h1 : ∀ l b, P l → P (l ++ [b])) (l : List Int) : P l := by
  have key : ∀ n : Nat, ∀ l : List Int, l.length = n → P l := by
    intro n
    induction n with
    | zero => intro l hl; rw [List.eq_nil_of_length_eq_zero hl]; exact h0
    | succ n ih =>
      intro l hl
      have hne : l ≠ [] := fun e => by rw [e] at hl; simp at hl
      rw [← List.dropLast_concat_getLast hne]
      exact h1 _ _ (ih _ (by simp [hl]))
  exact key _ l rfl
theorem valOf_nil : valOf [] = 0 := rfl
theorem valOf_append (l m : List Int) : valOf (l ++ m) = valOf l * 2 ^ m.length + valOf m := by
  unfold valOf
  rw [List.foldl_append, foldl_val]
  rfl
theorem valOf_snoc (l : List Int) (b : Int) : valOf (l ++ [b]) = valOf l * 2 + b := by unfold valOf; rw [List.foldl_append]; rfl
theorem valOf_range {l : List Int} : IsBits l → 0 ≤ valOf l ∧ valOf l < 2 ^ l.length := by
  refine rev_ind (P := fun l => IsBits l → 0 ≤ valOf l ∧ valOf l < 2 ^ l.length) (fun _ => by simp [valOf]) (fun l b ih h => ?_) l
  have h1 := ih (fun x hx => h x (by simp [hx]))
  have h2 := h b (by simp)
  rw [valOf_snoc, List.length_append, List.length_singleton, Int.pow_succ]
  omega
theorem bitsOf_succ (n : Nat) (v : Int) : bitsOf (n + 1) v = bitsOf n (v / 2) ++ [v % 2] := by
  simp only [bitsOf]
  rw [List.range_succ, List.map_append]
  congr 1
  · apply List.map_congr_left
    intro i hi
    simp only [List.mem_range] at hi
    rw [show n + 1 - 1 - i = (n - 1 - i) + 1 from by omega, Int.pow_succ, Int.mul_comm, ← Int.ediv_ediv_of_nonneg (by decide)]
  · simp
theorem bitsOf_zero (v : Int) : bitsOf 0 v = [] := rfl
theorem bitsOf_add (m n : Nat) (v : Int) : bitsOf (m + n) v = bitsOf m (v / 2 ^ n) ++ bitsOf n v := by
  induction n generalizing v with
  | zero => simp [bitsOf_zero]
  | succ n ih =>
    rw [← Nat.add_assoc, bitsOf_succ, ih, bitsOf_succ n, List.append_assoc, Int.ediv_ediv_of_nonneg (by decide), Int.pow_succ, Int.mul_comm]
theorem valOf_bitsOf (n : Nat) (v : Int) : valOf (bitsOf n v) = v % 2 ^ n := by
  induction n generalizing v with
  | zero => simp [bitsOf_zero, valOf_nil]
  | succ n ih =>
    rw [bitsOf_succ, valOf_snoc, ih, Int.pow_succ]
    have hp : (0 : Int) < 2 ^ n := Int.pow_pos (by decide)
    generalize (2 : Int) ^ n = q at *
    have h3 : v / (q * 2) = v / 2 / q := by rw [Int.mul_comm, Int.ediv_ediv_of_nonneg (by decide)]
    rw [Int.emod_def v (q * 2), Int.emod_def (v / 2) q, h3, Int.mul_comm q 2, Int.mul_assoc 2 q]
    generalize q * (v / 2 / q) = z
    omega
/-- A number's bits and back: the bits of what bits tell. -/
theorem bitsOf_valOf {l : List Int} : IsBits l → bitsOf l.length (valOf l) = l := by
  refine rev_ind (P := fun l => IsBits l → bitsOf l.length (valOf l) = l) (fun _ => rfl) (fun l b ih h => ?_) l
  have h1 := ih (fun x hx => h x (by simp [hx]))
  have h2 := h b (by simp)
  rw [List.length_append, List.length_singleton, bitsOf_succ, valOf_snoc]
  have e1 : (valOf l * 2 + b) / 2 = valOf l := by omega
  have e2 : (valOf l * 2 + b) % 2 = b := by omega
  rw [e1, e2, h1]
/-- Only the low bits count. -/
theorem bitsOf_mod (n : Nat) (v : Int) : bitsOf n (v % 2 ^ n) = bitsOf n v := by
  have := bitsOf_valOf (bitsOf_bits n v)
  rwa [bitsOf_length, valOf_bitsOf] at this
theorem byteVal_bits (b : Int) (l : List Int) : byteVal (bitsOf 8 b ++ l) = b % 256 := by
  have h := valOf_bitsOf 8 b
  have e : (2 : Int) ^ 8 = 256 := by decide
  rw [e] at h
  rw [← h]
  simp only [bitsOf, byteVal, valOf, List.range, List.range.loop, List.map, List.foldl, List.cons_append, List.getD_cons_zero, List.getD_cons_succ]
  omega
theorem packB_nil : packB [] = [] := rfl
theorem packB_byte (b : Int) (l : List Int) : packB (bitsOf 8 b ++ l) = b % 256 :: packB l := by
  have hl : (bitsOf 8 b ++ l).length = l.length + 8 := by rw [List.length_append, bitsOf_length]; omega
  unfold packB
  rw [hl, show (l.length + 8 + 7) / 8 = (l.length + 7) / 8 + 1 from by omega, List.range_succ_eq_map, List.map_cons, List.map_map]
  rw [Nat.mul_zero, List.drop_zero, byteVal_bits]
  refine congrArg (b % 256 :: ·) (List.map_congr_left fun j _ => ?_)
  show byteVal ((bitsOf 8 b ++ l).drop (8 * (j + 1))) = byteVal (l.drop (8 * j))
  rw [List.drop_append, bitsOf_length, List.drop_of_length_le (by rw [bitsOf_length]; omega), List.nil_append, show 8 * (j + 1) - 8 = 8 * j from by omega]
/-- Whole bytes: the bytes of a number's bits. -/
theorem packB_bytes (l : List Int) (hb : ∀ b ∈ l, 0 ≤ b ∧ b ≤ 255) (m : List Int) : packB ((l.flatMap fun b => bitsOf 8 b) ++ m) = l ++ packB m := by
  induction l with
  | nil => rfl
  | cons b l ih =>
    have h := hb b (by simp)
    rw [List.flatMap_cons, List.append_assoc, packB_byte, ih (fun x hx => hb x (by simp [hx]))]
    rw [List.cons_append, Int.emod_eq_of_lt h.1 (by omega)]
theorem bytesOf_range (s : ByteArray) : ∀ b ∈ bytesOf s, 0 ≤ b ∧ b ≤ 255 := by
  intro b hb
  simp only [bytesOf, List.mem_map] at hb
  obtain ⟨u, _, rfl⟩ := hb
  have := u.toNat_lt
  omega
theorem sBits_length (s : ByteArray) : (sBits s).length = 8 * s.size := by
  unfold sBits
  have : ∀ l : List Int, (l.flatMap fun b => bitsOf 8 b).length = 8 * l.length := by
    intro l
    induction l with
    | nil => rfl
    | cons b l ih => rw [List.flatMap_cons, List.length_append, ih, bitsOf_length, List.length_cons]; omega
  rw [this, bytesOf_length]
theorem sBits_bits (s : ByteArray) : IsBits (sBits s) := by
  intro b hb
  simp only [sBits, List.mem_flatMap] at hb
  obtain ⟨p, _, hb⟩ := hb
  exact bitsOf_bits _ _ b hb
theorem strOfNums_bytesOf (s : ByteArray) : strOfNums (bytesOf s) = s := by
  unfold strOfNums bytesOf
  apply ByteArray.ext
  simp [Function.comp_def]
theorem packB_sBits (s : ByteArray) : packB (sBits s) = bytesOf s := by
  have := packB_bytes (bytesOf s) (bytesOf_range s) []
  rw [List.append_nil, packB_nil, List.append_nil] at this
  exact this

end Go.Proofs.Ytmdaaphjndjakaf.Gv

/- Plain words on strings of bytes as lists of numbers. No program in sight. -/
namespace Go.Proofs.Ytmdaaphjndjakaf.Gv
open Go.RowKit Go.Proofs.YtmdaaphjndjakafW.PrintWords
set_option linter.unusedVariables false

theorem bytesOf_inj {s t : ByteArray} (h : bytesOf s = bytesOf t) : s = t := by rw [← strOfNums_bytesOf s, ← strOfNums_bytesOf t, h]
theorem bytesOf_str (l : List Int) (h : ∀ b ∈ l, 0 ≤ b ∧ b ≤ 255) : bytesOf (strOfNums l) = l := by
  unfold bytesOf strOfNums
  simp only [List.map_map]
  have : ∀ b ∈ l, ((fun b : UInt8 => (b.toNat : Int)) ∘ fun n : Int => UInt8.ofNat n.toNat) b = id b := by
    intro b hb
    have := h b hb
    simp only [Function.comp, id]
    have e : (UInt8.ofNat b.toNat).toNat = b.toNat := by
      rw [UInt8.toNat_ofNat']
      omega
    rw [e]; omega
  rw [List.map_congr_left this, List.map_id]
theorem bytesOf_append (s t : ByteArray) : bytesOf (s ++ t) = bytesOf s ++ bytesOf t := by
  unfold bytesOf
  simp
theorem bytesOf_empty : bytesOf (⟨#[]⟩ : ByteArray) = [] := rfl
theorem bytesOf_extract (s : ByteArray) (a b : Nat) : bytesOf (s.extract a b) = ((bytesOf s).take b).drop a := by
  unfold bytesOf
  rw [← List.map_take, ← List.map_drop]
  congr 1
  simp [ByteArray.extract, ByteArray.copySlice, List.drop_take]
theorem bt_get (s : ByteArray) (i : Int) : bt s i = (bytesOf s).getD i.toNat 0 := (rd_bytesOf s i).symm
/-- A string's first bytes by name. -/
theorem bytesOf_head (s : ByteArray) (m : Nat) (h : m ≤ s.size) : bytesOf s = ((List.range m).map fun i => bt s (i : Nat)) ++ (bytesOf s).drop m := by
  have e : (List.range m).map (fun i => bt s ((i : Nat) : Int)) = (bytesOf s).take m := by
    apply List.ext_getElem
    · simp [bytesOf_length]; omega
    · intro i h1 h2
      have hi : i < (bytesOf s).length := by rw [bytesOf_length]; simp at h1; omega
      simp only [List.getElem_map, List.getElem_range, List.getElem_take]
      rw [bt_get, Int.toNat_natCast, List.getD_eq_getElem?_getD, List.getElem?_eq_getElem hi]
      rfl
  rw [e, List.take_append_drop]
theorem sBits_cons {s : ByteArray} {l : List Int} (h : bytesOf s = l) : sBits s = l.flatMap fun b => bitsOf 8 b := by unfold sBits; rw [h]
theorem flat_cons (b : Int) (l : List Int) : ((b :: l).flatMap fun b => bitsOf 8 b) = bitsOf 8 b ++ l.flatMap fun b => bitsOf 8 b := rfl
theorem vals_cons (w : Nat) (v : Int) (rest : List Int) (ws : List Int) : vals (bitsOf w v ++ rest) ((w : Int) :: ws) = v % 2 ^ w :: vals rest ws := by
  simp only [vals, Int.toNat_natCast]
  rw [List.take_append_of_le_length (by rw [bitsOf_length]; exact Nat.le_refl _), List.take_of_length_le (by rw [bitsOf_length]; exact Nat.le_refl _), valOf_bitsOf, List.drop_append_of_le_length (by rw [bitsOf_length]; exact Nat.le_refl _), List.drop_of_length_le (by rw [bitsOf_length]; exact Nat.le_refl _), List.nil_append]
theorem vals_none (l : List Int) : vals l [] = [] := rfl
/-- Two numbers behind each other. -/
theorem bitsOf_join (m n : Nat) (a b : Int) (h0 : 0 ≤ b) (h1 : b < 2 ^ n) : bitsOf m a ++ bitsOf n b = bitsOf (m + n) (a * 2 ^ n + b) := by
  have hp : (0 : Int) < 2 ^ n := Int.pow_pos (by decide)
  rw [bitsOf_add]
  have e1 : (a * 2 ^ n + b) / 2 ^ n = a := by
    rw [Int.add_comm, Int.add_mul_ediv_right _ _ (Int.ne_of_gt hp), Int.ediv_eq_zero_of_lt h0 h1]; omega
  have e2 : bitsOf n (a * 2 ^ n + b) = bitsOf n b := by
    rw [← bitsOf_mod n (a * 2 ^ n + b), Int.add_comm, Int.add_mul_emod_self_right, bitsOf_mod]
  rw [e1, e2]
theorem bitsOf_8 (v : Int) (w : Nat) : bitsOf (w + 8) v = bitsOf w (v / 256) ++ bitsOf 8 v := by
  rw [bitsOf_add]; rfl
theorem packB_last (b : Int) : packB (bitsOf 8 b) = [b % 256] := by
  have := packB_byte b []
  rwa [List.append_nil] at this
theorem strOfNums_append (l m : List Int) : strOfNums (l ++ m) = strOfNums l ++ strOfNums m := by
  unfold strOfNums
  apply ByteArray.ext
  simp
theorem size_bytesOf (s : ByteArray) : s.size = (bytesOf s).length := (bytesOf_length s).symm

end Go.Proofs.Ytmdaaphjndjakaf.Gv

/- Close of layer 4, the program's: it comes to a plain word. -/
namespace Go.Proofs.Ytmdaaphjndjakaf.LRapsOpens
open Go.RowKit Go.Proofs.Ytmdaaphjndjakaf.PRapsOpens Go.Proofs.YtmdaaphjndjakafW.PrintWords Go.Proofs.YtmdaaphjndjakafW.PrintLast Go.Proofs.YtmdaaphjndjakafW.PrintMore Go.Proofs.Ytmdaaphjndjakaf
set_option linter.unusedVariables false
set_option linter.unusedSimpArgs false

/-- A message's bytes, or what is wrong. -/
def oamClose (l v c f o : Int) (s : ByteArray) : ByteArray × Int :=
  if l ≤ 7 ∧ v ≤ 31 then (if (s.size : Int) = o then ((strOfNums [l * 32 + v, c, f, o] ++ s) ++ ⟨#[0]⟩, 0) else (⟨#[]⟩, 3)) else (⟨#[]⟩, 4)
def isU8 (n : Int) : Prop := 0 ≤ n ∧ n ≤ 255

theorem oc_u64 {n : Int} (h : isU8 n) : IntKind.u64.wrap n = n := by have := h.1; have := h.2; simp [IntKind.wrap, IntKind.bits, IntKind.signed]; omega
theorem oc_wrap {n : Int} (h : isU8 n) : wrap64 n = n := by have := h.1; have := h.2; unfold wrap64; omega

theorem pack_oam (l v c f o : Int) (hl : isU8 l) (hv : isU8 v) (hc : isU8 c) (hf : isU8 f) (ho : isU8 o) :
    Gv.pack [(3, l), (5, v), (8, c), (8, f), (8, o)] = some (if l ≤ 7 ∧ v ≤ 31 then (strOfNums [l * 32 + v, c, f, o], 0) else (ByteArray.empty, 4)) := by
  have p3 : (2 : Int) ^ (3 : Int).toNat = 8 := by decide
  have p5 : (2 : Int) ^ (5 : Int).toNat = 32 := by decide
  have p8 : (2 : Int) ^ (8 : Int).toNat = 256 := by decide
  unfold isU8 at *
  have hu : Gv.isU64 [(3, l), (5, v), (8, c), (8, f), (8, o)] = true := by
    simp only [Gv.isU64, List.all_cons, List.all_nil, Bool.and_true, Bool.and_eq_true, decide_eq_true_eq]; unfold Gv.u64max; omega
  unfold Gv.pack
  rw [if_pos ⟨hu, by simp⟩]
  by_cases h : l ≤ 7 ∧ v ≤ 31
  · have hok : [((3 : Int), l), (5, v), (8, c), (8, f), (8, o)].all Gv.okPart = true := by
      simp only [List.all_cons, List.all_nil, Gv.okPart, p3, p5, p8, Bool.and_true, Bool.and_eq_true, Bool.or_eq_true, decide_eq_true_eq]; omega
    have e : Gv.allBits [(3, l), (5, v), (8, c), (8, f), (8, o)] = Gv.bitsOf 8 (l * 32 + v) ++ (Gv.bitsOf 8 c ++ (Gv.bitsOf 8 f ++ Gv.bitsOf 8 o)) := by
      have h32 : (2 : Int) ^ 5 = 32 := by decide
      have := Gv.bitsOf_join 3 5 l v hv.1 (by rw [h32]; omega)
      have e32 : (2 : Int) ^ 5 = 32 := by decide
      rw [e32] at this
      simp only [Gv.allBits, List.flatMap_cons, List.flatMap_nil, List.append_nil]
      show Gv.bitsOf 3 l ++ (Gv.bitsOf 5 v ++ _) = _
      rw [← List.append_assoc, this]
      rfl
    have elen : (Gv.bitsOf 8 (l * 32 + v) ++ (Gv.bitsOf 8 c ++ (Gv.bitsOf 8 f ++ Gv.bitsOf 8 o))).length % 8 = 0 := by
      simp only [List.length_append, Gv.bitsOf_length]
    rw [if_pos hok, e, if_pos elen, if_pos h, Gv.packB_byte, Gv.packB_byte, Gv.packB_byte, Gv.packB_last]
    rw [Int.emod_eq_of_lt (a := l * 32 + v) (by omega) (by omega), Int.emod_eq_of_lt hc.1 (by omega), Int.emod_eq_of_lt hf.1 (by omega), Int.emod_eq_of_lt ho.1 (by omega)]
    rfl
  · have hok : ¬ [((3 : Int), l), (5, v), (8, c), (8, f), (8, o)].all Gv.okPart = true := by
      simp only [List.all_cons, List.all_nil, Gv.okPart, p3, p5, p8, Bool.and_true, Bool.and_eq_true, Bool.or_eq_true, decide_eq_true_eq]; omega
    rw [if_neg hok, if_neg h]

/-- The program's Close. -/
theorem oam_close (l v c f o : Int) (s : ByteArray) (hs : s.size ≤ 100000) (hl : isU8 l) (hv : isU8 v) (hc : isU8 c) (hf : isU8 f) (ho : isU8 o) : oam_Close.f l v c f o s = some (oamClose l v c f o s) := by
  unfold oam_Close.f field_Pack.f oamClose
  rw [oc_u64 hl, oc_u64 hv, oc_u64 hc, oc_u64 hf, oc_u64 ho]
  simp only [List.map_cons, List.map_nil]
  rw [pack_oam l v c f o hl hv hc hf ho, oc_wrap ho]
  have hz : (strOfNums [l * 32 + v, c, f, o]).size = 4 := by rw [strOfNums_size]; rfl
  by_cases h : l ≤ 7 ∧ v ≤ 31
  · rw [if_pos h, if_pos h]
    simp only [Option.bind_some]
    rw [if_pos trivial, hz]
    by_cases h2 : (s.size : Int) = o
    · rw [if_pos h2, if_pos h2, if_pos (by omega), if_pos (by omega)]
    · rw [if_neg h2, if_neg h2]
  · rw [if_neg h, if_neg h]
    simp only [Option.bind_some]
    rw [if_neg (by decide)]

end Go.Proofs.Ytmdaaphjndjakaf.LRapsOpens

/- Plain words: packed bits split, and split bits packed. No program in sight. -/
namespace Go.Proofs.Ytmdaaphjndjakaf.Gv
open Go.RowKit Go.Proofs.YtmdaaphjndjakafW.PrintWords
set_option linter.unusedVariables false

theorem flat_take (n : Nat) : ∀ l : List Int, (l.flatMap fun b => bitsOf 8 b).take (8 * n) = (l.take n).flatMap fun b => bitsOf 8 b := by
  induction n with
  | zero => intro l; simp
  | succ n ih =>
    intro l
    cases l with
    | nil => simp
    | cons b l =>
      rw [List.flatMap_cons, List.take_succ_cons, List.flatMap_cons, List.take_append, bitsOf_length, List.take_of_length_le (by rw [bitsOf_length]; omega), show 8 * (n + 1) - 8 = 8 * n from by omega, ih]
theorem packB_flat (n : Nat) : ∀ bits : List Int, IsBits bits → bits.length = 8 * n → ((packB bits).flatMap fun b => bitsOf 8 b) = bits := by
  induction n with
  | zero =>
    intro bits h hl
    have e : bits = [] := List.eq_nil_of_length_eq_zero (by omega)
    rw [e]; rfl
  | succ n ih =>
    intro bits h hl
    have h8 : bitsOf 8 (valOf (bits.take 8)) = bits.take 8 := by
      have := bitsOf_valOf (l := bits.take 8) (fun b hb => h b (List.mem_of_mem_take hb))
      rwa [List.length_take, show min 8 bits.length = 8 from by omega] at this
    have e : bits = bitsOf 8 (valOf (bits.take 8)) ++ bits.drop 8 := by rw [h8]; exact (List.take_append_drop 8 bits).symm
    have hd := ih (bits.drop 8) (h.drop 8) (by rw [List.length_drop]; omega)
    generalize valOf (bits.take 8) = v at e
    generalize bits.drop 8 = m at e hd
    subst e
    have e2 := bitsOf_mod 8 v
    rw [show (2 : Int) ^ 8 = 256 from by decide] at e2
    rw [packB_byte, List.flatMap_cons, hd, e2]
/-- Whole bytes ahead: their bytes come first. -/
theorem packB_whole (n : Nat) : ∀ bits m : List Int, IsBits bits → bits.length = 8 * n → packB (bits ++ m) = packB bits ++ packB m := by
  intro bits m h hl
  have hr := packB_flat n bits h hl
  have h2 := packB_bytes (packB bits) (packB_range h) m
  rwa [hr] at h2
theorem foldl_sum (l : List Int) (a : Int) : l.foldl (· + ·) a = a + l.foldl (· + ·) 0 := by
  induction l generalizing a with
  | nil => simp
  | cons b l ih => rw [List.foldl_cons, List.foldl_cons, ih, ih (0 + b)]; omega
theorem sumW_cons (w : Int) (ws : List Int) : sumW (w :: ws) = w + sumW ws := by
  unfold sumW
  rw [List.foldl_cons, foldl_sum]; omega
theorem allBits_cons (p : Int × Int) (l : List (Int × Int)) : allBits (p :: l) = bitsOf p.1.toNat p.2 ++ allBits l := rfl
theorem bits_all (l : List (Int × Int)) : IsBits (allBits l) := by
  intro b hb
  simp only [allBits, List.mem_flatMap] at hb
  obtain ⟨p, _, hb⟩ := hb
  exact bitsOf_bits _ _ b hb
theorem okPart_w {p : Int × Int} (h : okPart p = true) : 1 ≤ p.1 ∧ p.1 ≤ 64 := by
  simp only [okPart, Bool.and_eq_true, decide_eq_true_eq] at h
  exact h.1
theorem okW_parts (l : List (Int × Int)) (h : l.all okPart = true) : okW (l.map (·.1)) = true := by
  simp only [okW, List.all_eq_true, List.mem_map] at *
  rintro x ⟨p, hp, rfl⟩
  have := okPart_w (h p hp)
  simp [this.1, this.2]
theorem sum_parts (l : List (Int × Int)) (h : l.all okPart = true) : sumW (l.map (·.1)) = ((allBits l).length : Int) := by
  induction l with
  | nil => rfl
  | cons p l ih =>
    rw [List.all_cons, Bool.and_eq_true] at h
    have := okPart_w h.1
    rw [List.map_cons, sumW_cons, ih h.2, allBits_cons, List.length_append, bitsOf_length]
    omega
theorem part_mod {p : Int × Int} (h : okPart p = true) (h0 : 0 ≤ p.2) (h1 : p.2 ≤ u64max) : p.2 % 2 ^ p.1.toNat = p.2 := by
  have hw := okPart_w h
  simp only [okPart, Bool.and_eq_true, Bool.or_eq_true, decide_eq_true_eq] at h
  have hp : (0 : Int) < 2 ^ p.1.toNat := Int.pow_pos (by decide)
  rcases h.2 with h2 | h2
  · have e : p.1.toNat = 64 := by omega
    rw [e, show (2 : Int) ^ 64 = 18446744073709551616 from by decide]
    unfold u64max at h1
    omega
  · rw [Int.emod_def, h2]; omega
theorem vals_parts (l : List (Int × Int)) (h : l.all okPart = true) (hu : isU64 l = true) (rest : List Int) : vals (allBits l ++ rest) (l.map (·.1)) = l.map (·.2) := by
  induction l with
  | nil => rfl
  | cons p l ih =>
    rw [List.all_cons, Bool.and_eq_true] at h
    simp only [isU64, List.all_cons, Bool.and_eq_true, decide_eq_true_eq] at hu
    have hw := okPart_w h.1
    have e := vals_cons p.1.toNat p.2 (allBits l ++ rest) (l.map (·.1))
    rw [Int.toNat_of_nonneg (by omega), part_mod h.1 hu.1.1 hu.1.2, ih h.2 (by simp only [isU64]; exact hu.2)] at e
    rw [List.map_cons, List.map_cons, allBits_cons, List.append_assoc, e]
/-- What is packed is split as it was, whatever is behind. -/
theorem split_pack (l : List (Int × Int)) (h : l.all okPart = true) (hu : isU64 l = true) (h8 : (allBits l).length % 8 = 0) (behind : ByteArray) :
    split (strOfNums (packB (allBits l)) ++ behind) (l.map (·.1)) = (l.map (·.2), behind, 0) := by
  have hb := bits_all l
  have e1 : bytesOf (strOfNums (packB (allBits l)) ++ behind) = packB (allBits l) ++ bytesOf behind := by
    rw [bytesOf_append, bytesOf_str _ (packB_range hb)]
  have hpl : (packB (allBits l)).length = (allBits l).length / 8 := by rw [packB_length]; omega
  have e2 : sBits (strOfNums (packB (allBits l)) ++ behind) = allBits l ++ sBits behind := by
    rw [sBits_cons e1, List.flatMap_append, packB_flat ((allBits l).length / 8) _ hb (by omega)]; rfl
  have hsz : (strOfNums (packB (allBits l)) ++ behind).size = (allBits l).length / 8 + behind.size := by
    rw [size_bytesOf, e1, List.length_append, hpl, bytesOf_length]
  unfold split
  rw [if_pos (okW_parts l h), sum_parts l h, if_pos (by omega), if_neg (by rw [hsz]; omega), e2, vals_parts l h hu]
  refine Prod.ext rfl (Prod.ext ?_ rfl)
  apply bytesOf_inj
  show bytesOf ((strOfNums (packB (allBits l)) ++ behind).extract _ _) = _
  rw [bytesOf_extract, e1, List.take_of_length_le (by rw [List.length_append, hpl, bytesOf_length, hsz]; omega)]
  rw [show (((allBits l).length : Int) / 8).toNat = (packB (allBits l)).length from by rw [hpl]; omega, List.drop_left]

theorem okW_cons {w : Int} {ws : List Int} (h : okW (w :: ws) = true) : 1 ≤ w ∧ w ≤ 64 ∧ okW ws = true := by
  simp only [okW, List.all_cons, Bool.and_eq_true, decide_eq_true_eq] at *
  exact ⟨h.1.1, h.1.2, h.2⟩
theorem sumW_nonneg (ws : List Int) (h : okW ws = true) : 0 ≤ sumW ws := by
  induction ws with
  | nil => simp [sumW]
  | cons w ws ih =>
    have := okW_cons h
    have := ih this.2.2
    rw [sumW_cons]; omega
theorem two_le {m : Nat} (h : m ≤ 64) : (2 : Int) ^ m ≤ 18446744073709551616 := by
  have : (2 : Nat) ^ m ≤ 2 ^ 64 := Nat.pow_le_pow_right (by decide) h
  have e : ((2 ^ m : Nat) : Int) = (2 : Int) ^ m := by push_cast; rfl
  rw [← e]
  have h64 : (2 : Nat) ^ 64 = 18446744073709551616 := by decide
  omega
theorem zip_bits (ws : List Int) : ∀ bits : List Int, IsBits bits → okW ws = true → sumW ws ≤ (bits.length : Int) →
    allBits (ws.zip (vals bits ws)) = bits.take (sumW ws).toNat ∧ (ws.zip (vals bits ws)).all okPart = true ∧ isU64 (ws.zip (vals bits ws)) = true := by
  induction ws with
  | nil => intro bits hb hok hl; simp [vals, allBits, sumW, isU64]
  | cons w ws ih =>
    intro bits hb hok hl
    have ho := okW_cons hok
    have hs := sumW_nonneg ws ho.2.2
    rw [sumW_cons] at hl
    have hd := ih (bits.drop w.toNat) (hb.drop _) ho.2.2 (by rw [List.length_drop]; omega)
    have hbt : IsBits (bits.take w.toNat) := fun b h => hb b (List.mem_of_mem_take h)
    have hlt : (bits.take w.toNat).length = w.toNat := by rw [List.length_take]; omega
    have hr := valOf_range hbt
    have hv := bitsOf_valOf hbt
    rw [hlt] at hr hv
    have h64 := two_le (m := w.toNat) (by omega)
    have ez : (w :: ws).zip (vals bits (w :: ws)) = (w, valOf (bits.take w.toNat)) :: ws.zip (vals (bits.drop w.toNat) ws) := rfl
    rw [ez]
    refine ⟨?_, ?_, ?_⟩
    · rw [allBits_cons, hd.1, sumW_cons]
      show bitsOf w.toNat (valOf (bits.take w.toNat)) ++ _ = _
      rw [hv, show (w + sumW ws).toNat = w.toNat + (sumW ws).toNat from by omega, List.take_add]
    · rw [List.all_cons, hd.2.1, Bool.and_true]
      simp only [okPart, Bool.and_eq_true, Bool.or_eq_true, decide_eq_true_eq]
      exact ⟨⟨ho.1, ho.2.1⟩, .inr (Int.ediv_eq_zero_of_lt hr.1 hr.2)⟩
    · have h3 := hd.2.2
      simp only [isU64, List.all_cons, Bool.and_eq_true, decide_eq_true_eq] at h3 ⊢
      refine ⟨⟨hr.1, ?_⟩, h3⟩
      unfold u64max
      omega
/-- What is split is packed as it was. -/
theorem pack_split (s : ByteArray) (ws : List Int) (hok : okW ws = true) (h8 : sumW ws % 8 = 0) (hsz : sumW ws / 8 ≤ (s.size : Int)) :
    strOfNums (packB (allBits (ws.zip (vals (sBits s) ws)))) ++ s.extract (sumW ws / 8).toNat s.size = s ∧ (allBits (ws.zip (vals (sBits s) ws))).length % 8 = 0 ∧
      (ws.zip (vals (sBits s) ws)).all okPart = true ∧ isU64 (ws.zip (vals (sBits s) ws)) = true := by
  have hs := sumW_nonneg ws hok
  have hz := zip_bits ws (sBits s) (sBits_bits s) hok (by rw [sBits_length]; omega)
  have hlen : ((sBits s).take (sumW ws).toNat).length = (sumW ws).toNat := by rw [List.length_take, sBits_length]; omega
  refine ⟨?_, ?_, hz.2.1, hz.2.2⟩
  · rw [hz.1]
    have e8 : (sumW ws).toNat = 8 * (sumW ws / 8).toNat := by omega
    have e : packB ((sBits s).take (sumW ws).toNat) = (bytesOf s).take (sumW ws / 8).toNat := by
      rw [e8]
      unfold sBits
      rw [flat_take]
      have := packB_bytes ((bytesOf s).take (sumW ws / 8).toNat) (fun b hb => bytesOf_range s b (List.mem_of_mem_take hb)) []
      rwa [List.append_nil, packB_nil, List.append_nil] at this
    rw [e]
    apply bytesOf_inj
    rw [bytesOf_append, bytesOf_str _ (fun b hb => bytesOf_range s b (List.mem_of_mem_take hb)), bytesOf_extract, List.take_of_length_le (l := bytesOf s) (i := s.size) (by rw [bytesOf_length]; omega), List.take_append_drop]
  · rw [hz.1, hlen]; omega

end Go.Proofs.Ytmdaaphjndjakaf.Gv

/- Plain words of layer 5: what is wrong with a message, and its bytes. No program in sight. -/
namespace Go.Proofs.Ytmdaaphjndjakaf.Gv
open Go.RowKit Go.Proofs.YtmdaaphjndjakafW.PrintWords
set_option linter.unusedVariables false

/-- What is wrong with a message. -/
def rapsWrong (r : Int) (b : Bool) (n : Int) : Int :=
  if r = 0 ∨ r = 7 ∨ r = 11 ∨ r = 13 then (if b = true ∧ r ≠ 0 then 3 else if n < 281474976710656 ∧ n / 1099511627776 % 2 = 0 then 0 else 4) else 8
def bi (b : Bool) : Int := if b = true then 1 else 0
theorem bi_range (b : Bool) : 0 ≤ bi b ∧ bi b ≤ 1 := by cases b <;> decide
/-- A message's content. -/
def rapsBody (r : Int) (b k e : Bool) (n : Int) : ByteArray := (strOfNums [r * 16, bi b * 128 + bi k * 64 + bi e * 32] ++ strOfNums (packB (bitsOf 48 n))) ++ strOfNums (List.replicate 24 0)
theorem rapsBody_size (r : Int) (b k e : Bool) (n : Int) : (rapsBody r b k e n).size = 32 := by
  unfold rapsBody
  rw [ByteArray.size_append, ByteArray.size_append, strOfNums_size, strOfNums_size, strOfNums_size, packB_length, bitsOf_length]
  rfl
def rapsParts (r : Int) (b k e : Bool) (n : Int) : List (Int × Int) := [(4, r), (4, 0), (1, bi b), (1, bi k), (1, bi e), (5, 0), (48, n), (64, 0), (64, 0), (64, 0)]
theorem noughts_24 : packB (bitsOf 64 0 ++ (bitsOf 64 0 ++ bitsOf 64 0)) = List.replicate 24 0 := by decide +kernel
theorem bits_head (b k e : Bool) : bitsOf 1 (bi b) ++ (bitsOf 1 (bi k) ++ (bitsOf 1 (bi e) ++ bitsOf 5 0)) = bitsOf 8 (bi b * 128 + bi k * 64 + bi e * 32) := by
  cases b <;> cases k <;> cases e <;> decide +kernel
theorem pack_raps (r : Int) (b k e : Bool) (n : Int) (h0 : 0 ≤ r) (h1 : r ≤ 15) (hn0 : 0 ≤ n) (hn1 : n < 281474976710656) : pack (rapsParts r b k e n) = some (rapsBody r b k e n, 0) := by
  have p4 : (2 : Int) ^ (4 : Int).toNat = 16 := by decide
  have p1 : (2 : Int) ^ (1 : Int).toNat = 2 := by decide
  have p5 : (2 : Int) ^ (5 : Int).toNat = 32 := by decide
  have p48 : (2 : Int) ^ (48 : Int).toNat = 281474976710656 := by decide
  have hb := bi_range b
  have hk := bi_range k
  have he := bi_range e
  have hu : isU64 (rapsParts r b k e n) = true := by
    simp only [rapsParts, isU64, List.all_cons, List.all_nil, Bool.and_true, Bool.and_eq_true, decide_eq_true_eq]; unfold u64max; omega
  have hok : (rapsParts r b k e n).all okPart = true := by
    simp only [rapsParts, List.all_cons, List.all_nil, okPart, p4, p1, p5, p48, Bool.and_true, Bool.and_eq_true, Bool.or_eq_true, decide_eq_true_eq]
    have : n / 281474976710656 = 0 := by omega
    have : r / 16 = 0 := by omega
    have : bi b / 2 = 0 := by omega
    have : bi k / 2 = 0 := by omega
    have : bi e / 2 = 0 := by omega
    refine ⟨⟨by omega, .inr (by omega)⟩, ⟨by omega, .inr (by omega)⟩, ⟨by omega, .inr (by omega)⟩, ⟨by omega, .inr (by omega)⟩, ⟨by omega, .inr (by omega)⟩, ⟨by omega, .inr (by omega)⟩, ⟨by omega, .inr (by omega)⟩, ⟨by omega, .inl (by omega)⟩, ⟨by omega, .inl (by omega)⟩, ⟨by omega, .inl (by omega)⟩⟩
  have hbits : allBits (rapsParts r b k e n) = bitsOf 8 (r * 16) ++ (bitsOf 8 (bi b * 128 + bi k * 64 + bi e * 32) ++ (bitsOf 48 n ++ (bitsOf 64 0 ++ (bitsOf 64 0 ++ bitsOf 64 0)))) := by
    have h16 : (2 : Int) ^ 4 = 16 := by decide
    have e1 := bitsOf_join 4 4 r 0 (by omega) (by rw [h16]; omega)
    rw [h16, Int.add_zero] at e1
    have e2 := bits_head b k e
    rw [← e2, ← e1]
    simp only [rapsParts, allBits, List.flatMap_cons, List.flatMap_nil, List.append_nil, List.append_assoc]
    rfl
  have hlen : (allBits (rapsParts r b k e n)).length % 8 = 0 := by
    rw [hbits]; simp only [List.length_append, bitsOf_length]
  unfold pack
  rw [if_pos ⟨hu, by simp [rapsParts]⟩, if_pos hok, if_pos hlen, hbits, packB_byte, packB_byte, packB_whole 6 _ _ (bitsOf_bits _ _) (bitsOf_length _ _), noughts_24]
  rw [Int.emod_eq_of_lt (a := r * 16) (by omega) (by omega), Int.emod_eq_of_lt (a := bi b * 128 + bi k * 64 + bi e * 32) (by omega) (by omega)]
  have e : rapsBody r b k e n = strOfNums ([r * 16, bi b * 128 + bi k * 64 + bi e * 32] ++ packB (bitsOf 48 n) ++ List.replicate 24 0) := by
    unfold rapsBody
    rw [strOfNums_append, strOfNums_append]
  rw [e]
  simp only [List.cons_append, List.nil_append]
  rfl
theorem pack_addr (n : Int) (h0 : 0 ≤ n) (h1 : n < 281474976710656) : pack [(48, n)] = some (strOfNums (packB (bitsOf 48 n)), 0) := by
  have p48 : (2 : Int) ^ (48 : Int).toNat = 281474976710656 := by decide
  have hu : isU64 [((48 : Int), n)] = true := by
    simp only [isU64, List.all_cons, List.all_nil, Bool.and_true, Bool.and_eq_true, decide_eq_true_eq]; unfold u64max; omega
  have hok : [((48 : Int), n)].all okPart = true := by
    simp only [List.all_cons, List.all_nil, okPart, p48, Bool.and_true, Bool.and_eq_true, Bool.or_eq_true, decide_eq_true_eq]
    exact ⟨by omega, .inr (by omega)⟩
  have hbits : allBits [((48 : Int), n)] = bitsOf 48 n := by
    simp only [allBits, List.flatMap_cons, List.flatMap_nil, List.append_nil]; rfl
  unfold pack
  rw [if_pos ⟨hu, by simp⟩, if_pos hok, hbits, if_pos (by rw [bitsOf_length])]
  rfl

end Go.Proofs.Ytmdaaphjndjakaf.Gv

/- Layer 5, the program's: what is wrong with a message, and its bytes, come to plain words. -/
namespace Go.Proofs.Ytmdaaphjndjakaf.LRapsOpens
open Go.RowKit Go.Proofs.Ytmdaaphjndjakaf.PRapsOpens Go.Proofs.YtmdaaphjndjakafW.PrintWords Go.Proofs.YtmdaaphjndjakafW.PrintLast Go.Proofs.YtmdaaphjndjakafW.PrintMore Go.Proofs.Ytmdaaphjndjakaf
set_option linter.unusedVariables false
set_option linter.unusedSimpArgs false

theorem rp_wrap {n : Int} (h0 : -9223372036854775808 ≤ n) (h1 : n ≤ 9223372036854775807) : wrap64 n = n := by unfold wrap64; omega
def bitParts (l : List Bool) : List S75 := l.map fun b => (⟨1, Gv.bi b⟩ : S75)
theorem rb_loop (l : List Bool) (hl : l.length ≤ 1000) (d : Nat) : ∀ i : Nat, l.length - i = d → i ≤ l.length →
    Ev (fun k => raps_bits.l0 k (bitParts (l.take i)) l (l.length : Int) (i : Int)) (bitParts l) := by
  induction d with
  | zero =>
    intro i hi hi2
    rw [List.take_of_length_le (by omega)]
    refine Ev.step (f := fun _ => some (bitParts l)) (fun k => ?_) (Ev.now _)
    simp only [raps_bits.l0]
    rw [if_neg (by omega)]
  | succ d ih =>
    intro i hi hi2
    have hi3 : i < l.length := by omega
    have h := ih (i + 1) (by omega) (by omega)
    rw [List.take_succ_eq_append_getElem hi3] at h
    refine Ev.step (fun k => ?_) h
    simp only [raps_bits.l0]
    have hrd : rdOf false l (i : Int) = l[i] := by unfold rdOf; simp [List.getD_eq_getElem?_getD, hi3]
    have hlen : (bitParts (l.take i)).length < 8796093022208 := by unfold bitParts; rw [List.length_map, List.length_take]; omega
    rw [if_pos (by omega), if_pos (by omega), if_pos (by omega), hrd, if_pos hlen, if_pos hlen, rp_wrap (by omega) (by omega)]
    unfold bitParts
    rw [List.map_append, List.map_cons, List.map_nil]
    cases l[i] <;> rfl
theorem ev_rbits (l : List Bool) (hl : l.length ≤ 1000) : Ev (fun k => raps_bits.f k l) (bitParts l) := rb_loop l hl _ 0 rfl (by omega)

theorem oc_u64' {n : Int} (h0 : 0 ≤ n) (h1 : n ≤ 18446744073709551615) : IntKind.u64.wrap n = n := by simp [IntKind.wrap, IntKind.bits, IntKind.signed]; omega
theorem may_mac (n : Int) : mac_Addr_May.f n = some (decide (n < 281474976710656)) := by
  unfold mac_Addr_May.f
  have : (n ≤ 281474976710655) = (n < 281474976710656) := by apply propext; omega
  simp [this]
theorem group_mac (n : Int) (h0 : 0 ≤ n) (h1 : n < 281474976710656) : mac_Addr_Group.f n = some (n / 1099511627776 % 2 == 1) := by
  unfold mac_Addr_Group.f
  rw [may_mac, Option.bind_some, if_pos (by simpa using h1), Gv.and_one _ (by omega) (by omega)]

def rangeWrong (n : Int) : Int := if n < 281474976710656 ∧ n / 1099511627776 % 2 = 0 then 0 else 4
theorem ev_rw2 (r : Int) (b k1 e : Bool) (n : Int) (h0 : 0 ≤ n) : Ev (fun k => raps_Msg_wrong.j2 k r b k1 e n) (rangeWrong n) := by
  refine Ev.step (f := fun _ => some (rangeWrong n)) (fun k => ?_) (Ev.now _)
  simp only [raps_Msg_wrong.j2]
  unfold rangeWrong
  rw [may_mac, Option.bind_some]
  by_cases h : n < 281474976710656
  · rw [if_pos (by simpa using h), group_mac n h0 h, Option.bind_some]
    by_cases h2 : n / 1099511627776 % 2 = 0
    · rw [if_neg (by simp [h2]), if_pos ⟨h, h2⟩]
    · rw [if_pos (by simp; omega), if_neg (by omega)]
  · rw [if_neg (by simpa using h), if_neg (by omega)]
theorem ev_rw1 (r : Int) (b k1 e : Bool) (n : Int) (h0 : 0 ≤ n) : Ev (fun k => raps_Msg_wrong.j1 k r b k1 e n) (if b = true then 3 else rangeWrong n) := by
  have h := ev_rw2 r b k1 e n h0
  by_cases hb : b = true
  · rw [if_pos hb]
    refine Ev.step (f := fun _ => some 3) (fun k => ?_) (Ev.now _)
    simp only [raps_Msg_wrong.j1]
    rw [if_pos hb]
  · rw [if_neg hb]
    refine Ev.step (fun k => ?_) h
    simp only [raps_Msg_wrong.j1]
    rw [if_neg hb]
theorem ev_rwrong (r : Int) (b k1 e : Bool) (n : Int) (h0 : 0 ≤ n) : Ev (fun k => raps_Msg_wrong.f k r b k1 e n) (Gv.rapsWrong r b n) := by
  have h1 := ev_rw1 r b k1 e n h0
  have h2 := ev_rw2 r b k1 e n h0
  by_cases c7 : r = 7
  · have e7 : Gv.rapsWrong r b n = if b = true then 3 else rangeWrong n := by
      unfold Gv.rapsWrong rangeWrong; rw [if_pos (by omega)]
      by_cases hb : b = true
      · rw [if_pos ⟨hb, by omega⟩, if_pos hb]
      · rw [if_neg (fun h => hb h.1), if_neg hb]
    rw [e7]
    refine Ev.congr (fun k => ?_) h1
    unfold raps_Msg_wrong.f; rw [if_pos c7]
  by_cases c11 : r = 11
  · have e7 : Gv.rapsWrong r b n = if b = true then 3 else rangeWrong n := by
      unfold Gv.rapsWrong rangeWrong; rw [if_pos (by omega)]
      by_cases hb : b = true
      · rw [if_pos ⟨hb, by omega⟩, if_pos hb]
      · rw [if_neg (fun h => hb h.1), if_neg hb]
    rw [e7]
    refine Ev.congr (f := fun k => raps_Msg_wrong.j0 k r true r b k1 e n) (fun k => ?_) (Ev.step (fun k => ?_) h1)
    · unfold raps_Msg_wrong.f; rw [if_neg c7, if_pos c11, show (r == 11) = true from by simpa using c11]
    · simp only [raps_Msg_wrong.j0]; rw [if_pos trivial]
  by_cases c13 : r = 13
  · have e7 : Gv.rapsWrong r b n = if b = true then 3 else rangeWrong n := by
      unfold Gv.rapsWrong rangeWrong; rw [if_pos (by omega)]
      by_cases hb : b = true
      · rw [if_pos ⟨hb, by omega⟩, if_pos hb]
      · rw [if_neg (fun h => hb h.1), if_neg hb]
    rw [e7]
    refine Ev.congr (f := fun k => raps_Msg_wrong.j0 k r true r b k1 e n) (fun k => ?_) (Ev.step (fun k => ?_) h1)
    · unfold raps_Msg_wrong.f; rw [if_neg c7, if_neg c11, show (r == 13) = true from by simpa using c13]
    · simp only [raps_Msg_wrong.j0]; rw [if_pos trivial]
  have ef : ∀ k, raps_Msg_wrong.f k r b k1 e n = raps_Msg_wrong.j0 k r false r b k1 e n := by
    intro k
    unfold raps_Msg_wrong.f; rw [if_neg c7, if_neg c11, show (r == 13) = false from by simpa using c13]
  by_cases c0 : r = 0
  · have e7 : Gv.rapsWrong r b n = rangeWrong n := by
      unfold Gv.rapsWrong rangeWrong; rw [if_pos (by omega), if_neg (fun h => h.2 c0)]
    rw [e7]
    refine Ev.congr ef (Ev.step (fun k => ?_) h2)
    simp only [raps_Msg_wrong.j0]; rw [if_neg (by simp), if_pos c0]
  · have e7 : Gv.rapsWrong r b n = 8 := by
      unfold Gv.rapsWrong; rw [if_neg (by omega)]
    rw [e7]
    refine Ev.congr ef (Ev.step (f := fun _ => some 8) (fun k => ?_) (Ev.now _))
    simp only [raps_Msg_wrong.j0]; rw [if_neg (by simp), if_neg c0]

/-- A message's bytes, or what is wrong. -/
def rapsClose (r : Int) (b k e : Bool) (n lv : Int) : ByteArray × Int :=
  if lv > 7 then (⟨#[]⟩, 4) else if Gv.rapsWrong r b n = 0 then oamClose lv 1 40 0 32 (Gv.rapsBody r b k e n) else (⟨#[]⟩, Gv.rapsWrong r b n)
theorem wrong_zero {r : Int} {b : Bool} {n : Int} (h : Gv.rapsWrong r b n = 0) : (r = 0 ∨ r = 7 ∨ r = 11 ∨ r = 13) ∧ n < 281474976710656 := by
  unfold Gv.rapsWrong at h
  by_cases h1 : r = 0 ∨ r = 7 ∨ r = 11 ∨ r = 13
  · rw [if_pos h1] at h
    refine ⟨h1, ?_⟩
    by_cases h2 : b = true ∧ r ≠ 0
    · rw [if_pos h2] at h; omega
    · rw [if_neg h2] at h
      by_cases h3 : n < 281474976710656 ∧ n / 1099511627776 % 2 = 0
      · exact h3.1
      · rw [if_neg h3] at h; omega
  · rw [if_neg h1] at h; omega
theorem ev_raps_close (r : Int) (b kp e : Bool) (n lv : Int) (hr : isU8 r) (h0 : 0 ≤ n) (hlv : isU8 lv) : Ev (fun k => raps_Close.f k r b kp e n lv) (rapsClose r b kp e n lv) := by
  unfold rapsClose
  by_cases hl : lv > 7
  · rw [if_pos hl]
    refine Ev.congr (f := fun _ => some ((⟨#[]⟩ : ByteArray), 4)) (fun k => ?_) (Ev.now _)
    unfold raps_Close.f; rw [if_pos hl]
  · rw [if_neg hl]
    have hw := ev_rwrong r b kp e n h0
    have hb := ev_rbits [b, kp, e] (by simp)
    by_cases h : Gv.rapsWrong r b n = 0
    · rw [if_pos h]
      rw [h] at hw
      have hz := wrong_zero h
      have hbody := Gv.pack_raps r b kp e n hr.1 (by omega) h0 hz.2
      have hpk : field_Pack.f ((([(⟨4, IntKind.u64.wrap r⟩ : S75), (⟨4, 0⟩ : S75)] : List S75) ++ bitParts [b, kp, e]) ++ ([(⟨5, 0⟩ : S75), (⟨48, n⟩ : S75), (⟨64, 0⟩ : S75), (⟨64, 0⟩ : S75), (⟨64, 0⟩ : S75)] : List S75)) = some (Gv.rapsBody r b kp e n, 0) := by
        rw [oc_u64 hr]
        exact hbody
      have hoc := oam_close lv 1 40 0 32 (Gv.rapsBody r b kp e n) (by rw [Gv.rapsBody_size]; omega) hlv (by unfold isU8; omega) (by unfold isU8; omega) (by unfold isU8; omega) (by unfold isU8; omega)
      simp only [raps_Close.f, if_neg hl]
      refine Ev.bind hw ?_
      simp only [if_true, Option.bind_some]
      refine Ev.bind hb ?_
      refine Ev.congr (fun k => ?_) (Ev.now _)
      have hbl : (bitParts [b, kp, e]).length = 3 := rfl
      rw [if_pos (by rw [hbl]; simp), if_pos (by rw [List.length_append, hbl]; simp), hpk]
      simp only [Option.bind_some]
      rw [if_pos trivial, hoc]
      rfl
    · rw [if_neg h]
      simp only [raps_Close.f, if_neg hl]
      refine Ev.bind hw ?_
      simp only [if_neg h]
      exact Ev.now _

end Go.Proofs.Ytmdaaphjndjakaf.LRapsOpens

/- Split, the program's, as printed: it comes to the plain word split. -/
namespace Go.Proofs.Ytmdaaphjndjakaf.LRapsOpens
open Go.RowKit Go.Proofs.Ytmdaaphjndjakaf.PRapsOpens Go.Proofs.YtmdaaphjndjakafW.PrintWords Go.Proofs.YtmdaaphjndjakafW.PrintLast Go.Proofs.YtmdaaphjndjakafW.PrintMore Go.Proofs.Ytmdaaphjndjakaf
set_option linter.unusedVariables false
set_option linter.unusedSimpArgs false

theorem sw_wrap {n : Int} (h0 : -9223372036854775808 ≤ n) (h1 : n ≤ 9223372036854775807) : wrap64 n = n := by unfold wrap64; omega
theorem sw_u64 {n : Int} (h0 : 0 ≤ n) (h1 : n ≤ 18446744073709551615) : IntKind.u64.wrap n = n := by simp [IntKind.wrap, IntKind.bits, IntKind.signed]; omega
theorem sw_rd {l : List Int} {i : Nat} (h : i < l.length) : rd l (i : Int) = l[i] := by unfold rd; simp [List.getD_eq_getElem?_getD, h]
theorem sw_take {l : List Int} {i : Nat} (h : i < l.length) : l.take (i + 1) = l.take i ++ [l[i]] := List.take_succ_eq_append_getElem h

theorem sum_snoc (l : List Int) (b : Int) : Gv.sumW (l ++ [b]) = Gv.sumW l + b := by unfold Gv.sumW; rw [List.foldl_append]; rfl
theorem sum_bound (l : List Int) (h : Gv.okW l = true) : 0 ≤ Gv.sumW l ∧ Gv.sumW l ≤ 64 * l.length ∧ (l.length : Int) ≤ Gv.sumW l := by
  have key : ∀ l : List Int, Gv.okW l = true → 0 ≤ Gv.sumW l ∧ Gv.sumW l ≤ 64 * l.length ∧ (l.length : Int) ≤ Gv.sumW l := by
    refine fun l => Gv.rev_ind (P := fun l => Gv.okW l = true → 0 ≤ Gv.sumW l ∧ Gv.sumW l ≤ 64 * l.length ∧ (l.length : Int) ≤ Gv.sumW l) (fun _ => by simp [Gv.sumW]) (fun l b ih h => ?_) l
    simp only [Gv.okW, List.all_append, Bool.and_eq_true, List.all_cons, List.all_nil, decide_eq_true_eq] at h
    have := ih (by simp only [Gv.okW]; exact h.1)
    rw [sum_snoc, List.length_append, List.length_singleton]
    omega
  exact key l h
theorem okW_take {l : List Int} (h : Gv.okW l = true) (i : Nat) : Gv.okW (l.take i) = true := by
  simp only [Gv.okW, List.all_eq_true] at *
  exact fun x hx => h x (List.mem_of_mem_take hx)
theorem okW_get {l : List Int} (h : Gv.okW l = true) {i : Nat} (hi : i < l.length) : 1 ≤ l[i] ∧ l[i] ≤ 64 := by
  simp only [Gv.okW, List.all_eq_true] at h
  have := h l[i] (List.getElem_mem hi)
  simpa using this

/-! ### the program's sum of widths -/
theorem may_f (x : Int) : field_may.f x = some (decide (1 ≤ x) && decide (x ≤ 64)) := by
  unfold field_may.f
  by_cases h : x ≥ 1
  · rw [if_pos h]; simp [h]
  · rw [if_neg h]; simp [h]

theorem ev_sum_loop (l : List Int) (hl : l.length ≤ 1000) (d : Nat) : ∀ i : Nat, l.length - i = d → i ≤ l.length → Gv.okW (l.take i) = true →
    Ev (fun k => field_sum.l0 k (Gv.sumW (l.take i)) l (l.length : Int) (i : Int)) (if Gv.okW l = true then Gv.sumW l else -1) := by
  induction d with
  | zero =>
    intro i hi hi2 hok
    rw [List.take_of_length_le (by omega)] at hok ⊢
    rw [if_pos hok]
    refine Ev.step (f := fun _ => some (Gv.sumW l)) (fun k => ?_) (Ev.now _)
    simp only [field_sum.l0]
    rw [if_neg (by omega)]
  | succ d ih =>
    intro i hi hi2 hok
    have hil : i < l.length := by omega
    have hb := sum_bound _ hok
    have hlt : ((l.take i).length : Int) ≤ i := by have := List.length_take_le i l; omega
    by_cases hm : 1 ≤ l[i] ∧ l[i] ≤ 64
    · have hokn : Gv.okW (l.take (i + 1)) = true := by
        rw [sw_take hil]; simp only [Gv.okW, List.all_append, Bool.and_eq_true]
        exact ⟨hok, by simp [hm.1, hm.2]⟩
      have h := ih (i + 1) (by omega) (by omega) hokn
      rw [sw_take hil, sum_snoc] at h
      refine Ev.step (fun k => ?_) h
      simp only [field_sum.l0]
      rw [if_pos (by omega), if_pos (by omega), if_pos (by omega), sw_rd hil, may_f]
      simp only [hm.1, hm.2, decide_true, Bool.and_self, Option.bind_some, if_true]
      rw [sw_wrap (by omega) (by omega), sw_wrap (by omega) (by omega)]
      rfl
    · have hbad : ¬ Gv.okW l = true := fun h => hm (okW_get h hil)
      rw [if_neg hbad]
      refine Ev.step (f := fun _ => some (-1)) (fun k => ?_) (Ev.now _)
      simp only [field_sum.l0]
      rw [if_pos (by omega), if_pos (by omega), if_pos (by omega), sw_rd hil, may_f]
      have : (decide (1 ≤ l[i]) && decide (l[i] ≤ 64)) = false := by
        rw [Bool.and_eq_false_iff]; simp only [decide_eq_false_iff_not]; omega
      rw [this]; simp

theorem ev_sum (l : List Int) (hl : l.length ≤ 1000) : Ev (fun k => field_sum.f k l) (if Gv.okW l = true then Gv.sumW l else -1) := by
  have h := ev_sum_loop l hl _ 0 rfl (by omega) (by simp [Gv.okW])
  exact h

/-! ### bits of a string -/
theorem sBits_get (s : ByteArray) (p : Nat) (h : p < 8 * s.size) : (Gv.sBits s)[p]'(by rw [Gv.sBits_length]; exact h) = bt s (p / 8 : Nat) / 2 ^ (7 - p % 8) % 2 := by
  have key : ∀ (l : List Int) (p : Nat) (h : p < 8 * l.length), (l.flatMap fun b => Gv.bitsOf 8 b)[p]? = some (l.getD (p / 8) 0 / 2 ^ (7 - p % 8) % 2) := by
    intro l
    induction l with
    | nil => intro p h; simp at h
    | cons b l ih =>
      intro p h
      rw [List.flatMap_cons]
      by_cases hp : p < 8
      · rw [List.getElem?_append_left (by rw [Gv.bitsOf_length]; exact hp), show p / 8 = 0 from by omega, show p % 8 = p from by omega]
        rw [List.getElem?_eq_getElem (by rw [Gv.bitsOf_length]; exact hp)]
        simp [Gv.bitsOf]
      · rw [List.getElem?_append_right (by rw [Gv.bitsOf_length]; omega), Gv.bitsOf_length, ih (p - 8) (by simp at h; omega), show (p - 8) / 8 = p / 8 - 1 from by omega, show (p - 8) % 8 = p % 8 from by omega]
        obtain ⟨q, hq⟩ : ∃ q, p / 8 = q + 1 := ⟨p / 8 - 1, by omega⟩
        rw [hq]; simp
  have h2 := key (bytesOf s) p (by rw [bytesOf_length]; exact h)
  have h3 : (bytesOf s).getD (p / 8) 0 = bt s (p / 8 : Nat) := by
    rw [← rd_bytesOf]; rfl
  rw [h3] at h2
  exact (List.getElem?_eq_some_iff.1 h2).2

theorem wraps_u8' (n : Int) (h₀ : 0 ≤ n) (h₁ : n < 2 ^ 8) : IntKind.u8.wrap n = n := wraps_u8 n h₀ h₁
theorem wraps_u64' (n : Int) (h₀ : 0 ≤ n) (h₁ : n < 2 ^ 64) : IntKind.u64.wrap n = n := sw_u64 h₀ (by omega)
theorem div2_range (v : Int) (m : Nat) (h0 : 0 ≤ v) (h1 : v ≤ 255) : 0 ≤ v / 2 ^ m ∧ v / 2 ^ m ≤ 255 :=
  ⟨Int.ediv_nonneg h0 (Int.le_of_lt (Int.pow_pos (by decide))), Int.le_trans (Int.ediv_le_self _ h0) h1⟩
theorem pow_le_63 {m : Nat} (h : m ≤ 63) : (2 : Int) ^ m ≤ 9223372036854775808 := by
  have h1 : (2 : Int) ^ m ≤ 2 ^ 63 := by
    have := Nat.pow_le_pow_right (show 0 < 2 by decide) h
    exact_mod_cast this
  exact Int.le_trans h1 (by decide)
theorem pow_le_64 {m : Nat} (h : m ≤ 64) : (2 : Int) ^ m ≤ 18446744073709551616 := by
  have h1 : (2 : Int) ^ m ≤ 2 ^ 64 := by
    have := Nat.pow_le_pow_right (show 0 < 2 by decide) h
    exact_mod_cast this
  exact Int.le_trans h1 (by decide)
/-- One bit of the program's Split. -/
theorem split_bit (x : Int) (b : Int) (m : Nat) (hm : m ≤ 7) (hx0 : 0 ≤ x) (hx1 : x < 9223372036854775808) (hb0 : 0 ≤ b) (hb1 : b ≤ 255) :
    Go.bits .or .u64 (IntKind.u64.wrap (x * 2)) (IntKind.u64.wrap (Go.bits .and .u8 (shr .u8 b (m : Int)) 1)) = x * 2 + b / 2 ^ m % 2 := by
  have e1 : shr .u8 b (m : Int) = b / 2 ^ m := by
    unfold shr
    rw [Int.toNat_natCast, Nat.min_eq_left (by simp [IntKind.bits]; omega)]
  have hr := div2_range b m hb0 hb1
  have e2 : Go.bits .and .u8 (b / 2 ^ m) 1 = b / 2 ^ m % 2 := bits_mask .u8 8 (by decide) wraps_u8 1 (by decide) _ hr.1 (by omega)
  rw [e1, e2, sw_u64 (by omega) (by omega), sw_u64 (by omega) (by omega)]
  exact bits_join .u64 64 (by decide) wraps_u64' 1 _ _ (by omega) (by omega) (by omega) (by omega) (by omega) (by omega)

theorem valOf_take_succ {l : List Int} {p : Nat} (h : p < l.length) : Gv.valOf (l.take (p + 1)) = Gv.valOf (l.take p) * 2 + l[p] := by rw [sw_take h, Gv.valOf_snoc]

/-- The inner loop: one part. -/
theorem ev_part (s : ByteArray) (hs : s.size ≤ 100000) (n : Int) (out ws : List Int) (i : Int) (at_ w : Nat) (hw : w ≤ 64) (ha : at_ + w ≤ 8 * s.size) (hout : out.length ≤ 1000) (r : List Int × ByteArray × Int)
    (hk : Ev (fun k => field_Split.l0 k s n (out ++ [Gv.valOf (((Gv.sBits s).drop at_).take w)]) ((at_ + w : Nat) : Int) ws (ws.length : Int) (wrap64 (i + 1))) r) (d : Nat) :
    ∀ j : Nat, w - j = d → j ≤ w → Ev (fun k => field_Split.l1 k s n out ((at_ + j : Nat) : Int) (Gv.valOf (((Gv.sBits s).drop at_).take j)) ws (ws.length : Int) i (w : Int) (j : Int)) r := by
  have hlen := Gv.sBits_length s
  induction d with
  | zero =>
    intro j hj hj2
    obtain rfl : j = w := by omega
    refine Ev.step (fun k => ?_) hk
    simp only [field_Split.l1]
    rw [if_neg (by omega), if_pos (by omega)]
  | succ d ih =>
    intro j hj hj2
    have h := ih (j + 1) (by omega) (by omega)
    have hjl : j < ((Gv.sBits s).drop at_).length := by rw [List.length_drop, hlen]; omega
    rw [valOf_take_succ hjl, List.getElem_drop, sBits_get s (at_ + j) (by omega)] at h
    have hbits : Gv.IsBits (((Gv.sBits s).drop at_).take j) := fun b hb => Gv.sBits_bits s b (List.mem_of_mem_drop (List.mem_of_mem_take hb))
    have hv := Gv.valOf_range hbits
    have hlj : (((Gv.sBits s).drop at_).take j).length = j := by rw [List.length_take]; omega
    rw [hlj] at hv
    have hp := pow_le_63 (show j ≤ 63 by omega)
    have hbt := bt_range s ((at_ + j) / 8 : Nat)
    refine Ev.step (fun k => ?_) h
    simp only [field_Split.l1]
    have t1 : wrap64 (Int.tdiv ((at_ + j : Nat) : Int) 8) = (((at_ + j) / 8 : Nat) : Int) := by
      rw [Int.tdiv_eq_ediv_of_nonneg (by omega), sw_wrap (by omega) (by omega)]; omega
    have t2 : wrap64 (7 - Int.tmod ((at_ + j : Nat) : Int) 8) = ((7 - (at_ + j) % 8 : Nat) : Int) := by
      rw [Int.tmod_eq_emod_of_nonneg (by omega), sw_wrap (by omega) (by omega)]; omega
    rw [if_pos (by omega), t1, if_pos (by omega), if_pos (by omega), t2, if_pos (by omega)]
    rw [split_bit _ _ (7 - (at_ + j) % 8) (by omega) hv.1 (by omega) hbt.1 hbt.2, sw_wrap (by omega) (by omega), sw_wrap (by omega) (by omega)]
    rfl

theorem vals_snoc (bits : List Int) (ws : List Int) (hok : Gv.okW ws = true) (w : Int) : Gv.vals bits (ws ++ [w]) = Gv.vals bits ws ++ [Gv.valOf ((bits.drop (Gv.sumW ws).toNat).take w.toNat)] := by
  have key : ∀ (ws bits : List Int) (a : Int), Gv.okW ws = true → Gv.vals bits (ws ++ [w]) = Gv.vals bits ws ++ [Gv.valOf ((bits.drop (Gv.sumW ws).toNat).take w.toNat)] := by
    intro ws
    induction ws with
    | nil => intro bits a _; simp [Gv.vals, Gv.sumW]
    | cons x ws ih =>
      intro bits a h
      simp only [Gv.okW, List.all_cons, Bool.and_eq_true, decide_eq_true_eq] at h
      have h2 := ih (bits.drop x.toNat) a (by simp only [Gv.okW]; exact h.2)
      have hb := sum_bound ws (by simp only [Gv.okW]; exact h.2)
      have hs : Gv.sumW (x :: ws) = x + Gv.sumW ws := by
        have : ∀ (l : List Int) (c : Int), l.foldl (· + ·) c = c + l.foldl (· + ·) 0 := by
          intro l
          induction l with
          | nil => intro c; simp
          | cons y l ih2 => intro c; rw [List.foldl_cons, ih2, List.foldl_cons, ih2 (0 + y)]; omega
        unfold Gv.sumW
        rw [List.foldl_cons, this]; omega
      simp only [List.cons_append, Gv.vals, h2]
      rw [List.drop_drop, hs, show (x + Gv.sumW ws).toNat = x.toNat + (Gv.sumW ws).toNat from by omega]
  exact key ws bits 0 hok

theorem vals_length (ws : List Int) (bits : List Int) : (Gv.vals bits ws).length = ws.length := by
  induction ws generalizing bits with
  | nil => rfl
  | cons x ws ih => simp [Gv.vals, ih]

theorem sum_take_le (l : List Int) (h : Gv.okW l = true) (i : Nat) (hi : i < l.length) : Gv.sumW (l.take i) + l[i] ≤ Gv.sumW l := by
  have key : ∀ d : Nat, ∀ j : Nat, l.length - j = d → j ≤ l.length → Gv.sumW (l.take j) ≤ Gv.sumW l := by
    intro d
    induction d with
    | zero => intro j hj hj2; rw [List.take_of_length_le (by omega)]; omega
    | succ d ih =>
      intro j hj hj2
      have h1 := ih (j + 1) (by omega) (by omega)
      have hj3 : j < l.length := by omega
      rw [sw_take hj3, sum_snoc] at h1
      have := okW_get h hj3
      omega
  have := key _ (i + 1) rfl (by omega)
  rwa [sw_take hi, sum_snoc] at this

theorem ev_split_loop (s : ByteArray) (hs : s.size ≤ 100000) (ws : List Int) (hl : ws.length ≤ 1000) (hok : Gv.okW ws = true) (h8 : Gv.sumW ws % 8 = 0) (hsz : Gv.sumW ws / 8 ≤ (s.size : Int)) (d : Nat) :
    ∀ i : Nat, ws.length - i = d → i ≤ ws.length →
    Ev (fun k => field_Split.l0 k s (Gv.sumW ws) (Gv.vals (Gv.sBits s) (ws.take i)) (Gv.sumW (ws.take i)) ws (ws.length : Int) (i : Int)) (Gv.vals (Gv.sBits s) ws, s.extract (Gv.sumW ws / 8).toNat s.size, 0) := by
  have hb := sum_bound ws hok
  have e1 : wrap64 (Int.tdiv (Gv.sumW ws) 8) = Gv.sumW ws / 8 := by rw [Int.tdiv_eq_ediv_of_nonneg hb.1, sw_wrap (by omega) (by omega)]
  induction d with
  | zero =>
    intro i hi hi2
    rw [List.take_of_length_le (by omega)]
    refine Ev.step (f := fun _ => some (Gv.vals (Gv.sBits s) ws, s.extract (Gv.sumW ws / 8).toNat s.size, 0)) (fun k => ?_) (Ev.now _)
    simp only [field_Split.l0]
    rw [if_neg (by omega), e1, if_pos (by omega), if_pos (by omega)]
  | succ d ih =>
    intro i hi hi2
    have hil : i < ws.length := by omega
    have h := ih (i + 1) (by omega) (by omega)
    have hwi := okW_get hok hil
    have hok2 := okW_take hok i
    have hb2 := sum_bound _ hok2
    have hle := sum_take_le ws hok i hil
    rw [sw_take hil, vals_snoc _ _ hok2, sum_snoc] at h
    obtain ⟨a, ha⟩ := Int.eq_ofNat_of_zero_le hb2.1
    obtain ⟨w, hw⟩ := Int.eq_ofNat_of_zero_le (show 0 ≤ ws[i] by omega)
    rw [hw, ha, Int.toNat_natCast, Int.toNat_natCast] at h
    have hp := ev_part s hs (Gv.sumW ws) (Gv.vals (Gv.sBits s) (ws.take i)) ws (i : Int) a w (by omega) (by omega) (by rw [vals_length, List.length_take]; omega) _ (by
      rw [sw_wrap (by omega) (by omega)]
      exact h) w 0 rfl (by omega)
    refine Ev.step (fun k => ?_) hp
    simp only [field_Split.l0]
    rw [if_pos (by omega), if_pos (by omega), if_pos (by omega), sw_rd hil, hw, ha]
    rfl

/-- The program's Split. -/
theorem ev_split (s : ByteArray) (hs : s.size ≤ 100000) (ws : List Int) (hl : ws.length ≤ 1000) : Ev (fun k => field_Split.f k s ws) (Gv.split s ws) := by
  have hsum := ev_sum ws hl
  simp only [field_Split.f]
  refine Ev.bind hsum ?_
  unfold Gv.split
  by_cases hok : Gv.okW ws = true
  · rw [if_pos hok, if_pos hok]
    have hb := sum_bound ws hok
    have e1 : wrap64 (Int.tdiv (Gv.sumW ws) 8) = Gv.sumW ws / 8 := by rw [Int.tdiv_eq_ediv_of_nonneg hb.1, sw_wrap (by omega) (by omega)]
    have e2 : Int.tmod (Gv.sumW ws) 8 = Gv.sumW ws % 8 := Int.tmod_eq_emod_of_nonneg hb.1
    by_cases h8 : Gv.sumW ws % 8 = 0
    · rw [if_pos h8]
      by_cases hz : Gv.sumW ws / 8 > (s.size : Int)
      · rw [if_pos hz]
        refine Ev.congr (fun k => ?_) (Ev.now _)
        rw [if_neg (by omega), e2, if_pos h8, e1, if_pos hz]
      · rw [if_neg hz]
        have h := ev_split_loop s hs ws hl hok h8 (by omega) _ 0 rfl (by omega)
        refine Ev.congr (fun k => ?_) h
        rw [if_neg (by omega), e2, if_pos h8, e1, if_neg hz]
        rfl
    · rw [if_neg h8]
      refine Ev.congr (fun k => ?_) (Ev.now _)
      rw [if_neg (by omega), e2, if_neg h8]
  · rw [if_neg hok, if_neg hok]
    refine Ev.congr (fun k => ?_) (Ev.now _)
    rw [if_pos (by decide)]

end Go.Proofs.Ytmdaaphjndjakaf.LRapsOpens

/- Open of layer 4, the program's: it comes to a plain word. -/
namespace Go.Proofs.Ytmdaaphjndjakaf.LRapsOpens
open Go.RowKit Go.Proofs.Ytmdaaphjndjakaf.PRapsOpens Go.Proofs.YtmdaaphjndjakafW.PrintWords Go.Proofs.YtmdaaphjndjakafW.PrintLast Go.Proofs.YtmdaaphjndjakafW.PrintMore Go.Proofs.Ytmdaaphjndjakaf
set_option linter.unusedVariables false
set_option linter.unusedSimpArgs false

/-- The head and the content of bytes, or what is wrong. -/
def oamOpen (s : ByteArray) : Int × Int × Int × Int × Int × ByteArray × Int :=
  if s.size < 4 then (0, 0, 0, 0, 0, ⟨#[]⟩, 1)
  else if (s.size : Int) < 5 + bt s 3 then (0, 0, 0, 0, 0, ⟨#[]⟩, 1)
  else if bt s (4 + bt s 3) = 0 then (bt s 0 / 32, bt s 0 % 32, bt s 1, bt s 2, bt s 3, s.extract 4 (4 + bt s 3).toNat, 0)
  else (0, 0, 0, 0, 0, ⟨#[]⟩, 3)

theorem split_oam (s : ByteArray) (h : 4 ≤ s.size) : Gv.split s [3, 5, 8, 8, 8] = ([bt s 0 / 32, bt s 0 % 32, bt s 1, bt s 2, bt s 3], s.extract 4 s.size, 0) := by
  have e1 : Gv.okW [3, 5, 8, 8, 8] = true := by decide
  have e2 : Gv.sumW [3, 5, 8, 8, 8] = 32 := by decide
  unfold Gv.split
  rw [if_pos e1, e2, if_pos (by decide), if_neg (by omega)]
  have hh := Gv.bytesOf_head s 4 h
  simp only [List.range, List.range.loop, List.map, List.cons_append, List.nil_append] at hh
  have h0 := bt_range s 0; have h1 := bt_range s 1; have h2 := bt_range s 2; have h3 := bt_range s 3
  have e3 : Gv.sBits s = Gv.bitsOf 3 (bt s 0 / 32) ++ (Gv.bitsOf 5 (bt s 0) ++ (Gv.bitsOf 8 (bt s 1) ++ (Gv.bitsOf 8 (bt s 2) ++ (Gv.bitsOf 8 (bt s 3) ++ ((bytesOf s).drop 4).flatMap fun b => Gv.bitsOf 8 b)))) := by
    rw [Gv.sBits_cons hh, Gv.flat_cons, Gv.flat_cons, Gv.flat_cons, Gv.flat_cons, ← List.append_assoc (Gv.bitsOf 3 _)]
    congr 1
    exact Gv.bitsOf_add 3 5 (bt s 0)
  have e4 : Gv.vals (Gv.sBits s) [3, 5, 8, 8, 8] = [bt s 0 / 32, bt s 0 % 32, bt s 1, bt s 2, bt s 3] := by
    rw [e3, show ([3, 5, 8, 8, 8] : List Int) = ((3 : Nat) : Int) :: ((5 : Nat) : Int) :: ((8 : Nat) : Int) :: ((8 : Nat) : Int) :: ((8 : Nat) : Int) :: [] from rfl]
    rw [Gv.vals_cons, Gv.vals_cons, Gv.vals_cons, Gv.vals_cons, Gv.vals_cons, Gv.vals_none]
    have p3 : (2 : Int) ^ 3 = 8 := by decide
    have p5 : (2 : Int) ^ 5 = 32 := by decide
    have p8 : (2 : Int) ^ 8 = 256 := by decide
    rw [p3, p5, p8, Int.emod_eq_of_lt (a := bt s 0 / 32) (by omega) (by omega), Int.emod_eq_of_lt h1.1 (by omega), Int.emod_eq_of_lt h2.1 (by omega), Int.emod_eq_of_lt h3.1 (by omega)]
  rw [e4]
  rfl
theorem split_oam_short (s : ByteArray) (h : s.size < 4) : Gv.split s [3, 5, 8, 8, 8] = ([], ⟨#[]⟩, 1) := by
  have e1 : Gv.okW [3, 5, 8, 8, 8] = true := by decide
  have e2 : Gv.sumW [3, 5, 8, 8, 8] = 32 := by decide
  unfold Gv.split
  rw [if_pos e1, e2, if_pos (by decide), if_pos (by omega)]

theorem bt_ext (s : ByteArray) (n : Int) (h0 : 0 ≤ n) (h4 : 4 ≤ s.size) : bt (s.extract 4 s.size) n = bt s (4 + n) := by
  rw [Gv.bt_get, Gv.bt_get, Gv.bytesOf_extract]
  rw [List.take_of_length_le (by rw [bytesOf_length]; exact Nat.le_refl _)]
  simp only [List.getD_eq_getElem?_getD, List.getElem?_drop]
  rw [show (4 + n).toNat = 4 + n.toNat from by omega]
theorem size_ext (s : ByteArray) (a b : Nat) (h : b ≤ s.size) : (s.extract a b).size = b - a := by
  rw [Gv.size_bytesOf, Gv.bytesOf_extract, List.length_drop, List.length_take, bytesOf_length]; omega
theorem ext_ext (s : ByteArray) (n : Nat) : (s.extract 4 s.size).extract 0 n = s.extract 4 (4 + n) := by
  apply Gv.bytesOf_inj
  rw [Gv.bytesOf_extract, Gv.bytesOf_extract, Gv.bytesOf_extract, List.take_of_length_le (l := bytesOf s) (i := s.size) (by rw [bytesOf_length]; exact Nat.le_refl _), List.drop_zero, List.drop_take, show 4 + n - 4 = n from by omega]

/-- The program's Open. -/
theorem ev_oam_open (s : ByteArray) (hs : s.size ≤ 100000) : Ev (fun k => oam_Open.f k s) (oamOpen s) := by
  have hsp := ev_split s hs [3, 5, 8, 8, 8] (by simp)
  simp only [oam_Open.f]
  refine Ev.bind hsp (Ev.congr (fun k => ?_) (Ev.now _))
  unfold oamOpen
  by_cases h4 : s.size < 4
  · rw [split_oam_short s h4, if_pos h4]
    simp
  · rw [split_oam s (by omega), if_neg h4]
    have h3 := bt_range s 3
    have h0 := bt_range s 0
    have h1 := bt_range s 1
    have h2 := bt_range s 2
    have r0 : rd [bt s 0 / 32, bt s 0 % 32, bt s 1, bt s 2, bt s 3] 0 = bt s 0 / 32 := rfl
    have r1 : rd [bt s 0 / 32, bt s 0 % 32, bt s 1, bt s 2, bt s 3] 1 = bt s 0 % 32 := rfl
    have r2 : rd [bt s 0 / 32, bt s 0 % 32, bt s 1, bt s 2, bt s 3] 2 = bt s 1 := rfl
    have r3 : rd [bt s 0 / 32, bt s 0 % 32, bt s 1, bt s 2, bt s 3] 3 = bt s 2 := rfl
    have r4 : rd [bt s 0 / 32, bt s 0 % 32, bt s 1, bt s 2, bt s 3] 4 = bt s 3 := rfl
    have m0 : bt s 0 / 32 % 256 = bt s 0 / 32 := by omega
    have m1 : bt s 0 % 32 % 256 = bt s 0 % 32 := by omega
    have m2 : bt s 1 % 256 = bt s 1 := by omega
    have m3 : bt s 2 % 256 = bt s 2 := by omega
    have m4 : bt s 3 % 256 = bt s 3 := by omega
    simp only [r0, r1, r2, r3, r4, m0, m1, m2, m3, m4, List.length_cons, List.length_nil]
    rw [if_pos trivial, if_pos (by decide), size_ext s 4 s.size (Nat.le_refl _)]
    by_cases h5 : (s.size : Int) < 5 + bt s 3
    · rw [if_pos (by omega), if_pos h5]
    · rw [if_neg (by omega), if_neg h5, bt_ext s _ h3.1 (by omega), ext_ext s]
      by_cases hz : bt s (4 + bt s 3) = 0
      · rw [if_pos hz, if_pos hz, show 4 + (bt s 3).toNat = (4 + bt s 3).toNat from by omega]
      · rw [if_neg hz, if_neg hz]

end Go.Proofs.Ytmdaaphjndjakaf.LRapsOpens

/- Is of layer 4: the program's comes to a plain word. -/
namespace Go.Proofs.Ytmdaaphjndjakaf.LRapsOpens
open Go.RowKit Go.Proofs.Ytmdaaphjndjakaf.PRapsOpens Go.Proofs.YtmdaaphjndjakafW.PrintWords Go.Proofs.YtmdaaphjndjakafW.PrintLast Go.Proofs.YtmdaaphjndjakafW.PrintMore Go.Proofs.Ytmdaaphjndjakaf
set_option linter.unusedVariables false
set_option linter.unusedSimpArgs false

/-- Is a head as it should be, or what isn't. -/
def oamIs (a b c e l v o f : Int) : Int := if a = l then (if b = v then (if c = o then (if e = f then 0 else 3) else 8) else 3) else 7
theorem is_own (k : Nat) (a b c d e l v o f : Int) : oam_Head_Is.f (k + 1) a b c d e l v o f = some (oamIs a b c e l v o f) := by
  unfold oam_Head_Is.f oamIs
  by_cases h1 : a = l
  · rw [if_pos h1, if_pos h1]
    by_cases h2 : b = v
    · by_cases h3 : c = o
      · by_cases h4 : e = f
        · simp [oam_Head_Is.j0, h2, h3, h4]
        · simp [oam_Head_Is.j0, h2, h3, h4]
      · simp [oam_Head_Is.j0, h2, h3]
    · by_cases h3 : c = o
      · simp [oam_Head_Is.j0, h2, h3]
      · simp [oam_Head_Is.j0, h2, h3]
  · rw [if_neg h1, if_neg h1]
theorem ev_is (a b c d e l v o f : Int) : Ev (fun k => oam_Head_Is.f k a b c d e l v o f) (oamIs a b c e l v o f) := by
  refine Ev.step (f := fun k => oam_Head_Is.f (k + 1) a b c d e l v o f) (fun k => rfl) ?_
  refine Ev.congr (fun k => ?_) (Ev.now _)
  rw [is_own]

end Go.Proofs.Ytmdaaphjndjakaf.LRapsOpens

/- Layer 4: what an opened message is. -/
namespace Go.Proofs.Ytmdaaphjndjakaf.LRapsOpens
open Go.RowKit Go.Proofs.Ytmdaaphjndjakaf.PRapsOpens Go.Proofs.YtmdaaphjndjakafW.PrintWords Go.Proofs.YtmdaaphjndjakafW.PrintLast Go.Proofs.YtmdaaphjndjakafW.PrintMore Go.Proofs.Ytmdaaphjndjakaf
set_option linter.unusedVariables false
set_option linter.unusedSimpArgs false

theorem oam_facts (s : ByteArray) (h : (oamOpen s).2.2.2.2.2.2 = 0) : ((oamOpen s).2.2.2.2.2.1.size : Int) = (oamOpen s).2.2.2.2.1 ∧ 0 ≤ (oamOpen s).2.2.2.1 ∧ (oamOpen s).2.2.2.1 ≤ 255 := by
  unfold oamOpen at *
  have h3 := bt_range s 3
  have h2 := bt_range s 2
  by_cases c1 : s.size < 4
  · rw [if_pos c1] at h; simp at h
  · rw [if_neg c1] at h ⊢
    by_cases c2 : (s.size : Int) < 5 + bt s 3
    · rw [if_pos c2] at h; simp at h
    · rw [if_neg c2] at h ⊢
      by_cases c3 : bt s (4 + bt s 3) = 0
      · rw [if_pos c3]
        refine ⟨?_, h2⟩
        show ((s.extract 4 (4 + bt s 3).toNat).size : Int) = bt s 3
        rw [size_ext s _ _ (by omega)]; omega
      · rw [if_neg c3] at h; simp at h
theorem is_facts {a b c e l v o f : Int} (h : oamIs a b c e l v o f = 0) : a = l ∧ b = v ∧ c = o ∧ e = f := by
  unfold oamIs at h
  by_cases h1 : a = l
  · rw [if_pos h1] at h
    by_cases h2 : b = v
    · rw [if_pos h2] at h
      by_cases h3 : c = o
      · rw [if_pos h3] at h
        by_cases h4 : e = f
        · exact ⟨h1, h2, h3, h4⟩
        · rw [if_neg h4] at h; omega
      · rw [if_neg h3] at h; omega
    · rw [if_neg h2] at h; omega
  · rw [if_neg h1] at h; omega


end Go.Proofs.Ytmdaaphjndjakaf.LRapsOpens

/- Plain words of layer 3: what is wrong with a frame, and its head's bytes. No program in sight. -/
namespace Go.Proofs.Ytmdaaphjndjakaf.Gv
open Go.RowKit Go.Proofs.YtmdaaphjndjakafW.PrintWords
set_option linter.unusedVariables false

/-- What is wrong with a frame. -/
def tagWrong (d s p v t : Int) (n : Nat) : Int :=
  if d < 281474976710656 ∧ s < 281474976710656 ∧ s / 1099511627776 % 2 = 0 then (if p ≤ 7 ∧ 1 ≤ v ∧ v ≤ 4094 then (if t < 1536 then 6 else if n > 1582 then 2 else 0) else 4) else 3
def bt1 (b : Bool) : Int := if b = true then 1 else 0
theorem bt1_range (b : Bool) : 0 ≤ bt1 b ∧ bt1 b ≤ 1 := by cases b <;> decide
/-- A frame's bytes ahead of its body. -/
def tagHead (d s p : Int) (b : Bool) (v t : Int) : ByteArray :=
  (((strOfNums (packB (bitsOf 48 d)) ++ strOfNums (packB (bitsOf 48 s))) ++ (⟨#[129, 0]⟩ : ByteArray)) ++ strOfNums (packB (bitsOf 16 (p * 8192 + v + bt1 b * 4096)))) ++ strOfNums (packB (bitsOf 16 t))
theorem tag_sizes (n : Int) : (strOfNums (packB (bitsOf 48 n))).size = 6 ∧ (strOfNums (packB (bitsOf 16 n))).size = 2 := by
  constructor <;> rw [strOfNums_size, packB_length, bitsOf_length]
theorem tagHead_size (d s p : Int) (b : Bool) (v t : Int) : (tagHead d s p b v t).size = 18 := by
  unfold tagHead
  simp only [ByteArray.size_append, (tag_sizes _).1, (tag_sizes _).2]
  rfl
def tagParts (d s p : Int) (b : Bool) (v t : Int) : List (Int × Int) := [(48, d), (48, s), (16, 33024), (3, p), (1, bt1 b), (12, v), (16, t)]
theorem tag_mark : packB (bitsOf 16 33024) = [129, 0] := by decide +kernel
theorem pack_tag (d s p : Int) (b : Bool) (v t : Int) (hd0 : 0 ≤ d) (hd1 : d < 281474976710656) (hs0 : 0 ≤ s) (hs1 : s < 281474976710656) (hp0 : 0 ≤ p) (hp1 : p ≤ 7) (hv0 : 0 ≤ v) (hv1 : v ≤ 4095) (ht0 : 0 ≤ t) (ht1 : t ≤ 65535) :
    pack (tagParts d s p b v t) = some (tagHead d s p b v t, 0) := by
  have p48 : (2 : Int) ^ (48 : Int).toNat = 281474976710656 := by decide
  have p16 : (2 : Int) ^ (16 : Int).toNat = 65536 := by decide
  have p3 : (2 : Int) ^ (3 : Int).toNat = 8 := by decide
  have p1 : (2 : Int) ^ (1 : Int).toNat = 2 := by decide
  have p12 : (2 : Int) ^ (12 : Int).toNat = 4096 := by decide
  have hb := bt1_range b
  have hu : isU64 (tagParts d s p b v t) = true := by
    simp only [tagParts, isU64, List.all_cons, List.all_nil, Bool.and_true, Bool.and_eq_true, decide_eq_true_eq]; unfold u64max; omega
  have hok : (tagParts d s p b v t).all okPart = true := by
    simp only [tagParts, List.all_cons, List.all_nil, okPart, p48, p16, p3, p1, p12, Bool.and_true, Bool.and_eq_true, Bool.or_eq_true, decide_eq_true_eq]
    refine ⟨⟨by omega, .inr (by omega)⟩, ⟨by omega, .inr (by omega)⟩, ⟨by omega, .inr (by omega)⟩, ⟨by omega, .inr (by omega)⟩, ⟨by omega, .inr (by omega)⟩, ⟨by omega, .inr (by omega)⟩, ⟨by omega, .inr (by omega)⟩⟩
  have hbits : allBits (tagParts d s p b v t) = bitsOf 48 d ++ (bitsOf 48 s ++ (bitsOf 16 33024 ++ (bitsOf 16 (p * 8192 + v + bt1 b * 4096) ++ bitsOf 16 t))) := by
    have q12 : (2 : Int) ^ 12 = 4096 := by decide
    have q1 : (2 : Int) ^ 1 = 2 := by decide
    have e1 := bitsOf_join 3 1 p (bt1 b) (by omega) (by rw [q1]; omega)
    have e2 := bitsOf_join 4 12 (p * 2 ^ 1 + bt1 b) v hv0 (by rw [q12]; omega)
    rw [q1] at e1 e2
    rw [q12] at e2
    rw [show (p * 2 + bt1 b) * 4096 + v = p * 8192 + v + bt1 b * 4096 from by omega] at e2
    have e3 : bitsOf 16 (p * 8192 + v + bt1 b * 4096) = bitsOf 3 p ++ (bitsOf 1 (bt1 b) ++ bitsOf 12 v) := by
      rw [← List.append_assoc]
      exact e2.symm.trans (by rw [← e1])
    rw [e3]
    simp only [tagParts, allBits, List.flatMap_cons, List.flatMap_nil, List.append_nil, List.append_assoc]
    rfl
  have hlen : (allBits (tagParts d s p b v t)).length % 8 = 0 := by
    rw [hbits]; simp only [List.length_append, bitsOf_length]
  unfold pack
  rw [if_pos ⟨hu, by simp [tagParts]⟩, if_pos hok, if_pos hlen, hbits]
  rw [packB_whole 6 _ _ (bitsOf_bits _ _) (bitsOf_length _ _), packB_whole 6 _ _ (bitsOf_bits _ _) (bitsOf_length _ _), packB_whole 2 _ _ (bitsOf_bits _ _) (bitsOf_length _ _), packB_whole 2 _ _ (bitsOf_bits _ _) (bitsOf_length _ _), tag_mark]
  have e : tagHead d s p b v t = strOfNums (packB (bitsOf 48 d) ++ (packB (bitsOf 48 s) ++ ([129, 0] ++ (packB (bitsOf 16 (p * 8192 + v + bt1 b * 4096)) ++ packB (bitsOf 16 t))))) := by
    unfold tagHead
    rw [strOfNums_append, strOfNums_append, strOfNums_append, strOfNums_append, ← ByteArray.append_assoc, ← ByteArray.append_assoc, ← ByteArray.append_assoc]
    rfl
  rw [e]
  rfl
theorem pack_two (n : Int) (h0 : 0 ≤ n) (h1 : n ≤ 65535) : pack [(16, n)] = some (strOfNums (packB (bitsOf 16 n)), 0) := by
  have p16 : (2 : Int) ^ (16 : Int).toNat = 65536 := by decide
  have hu : isU64 [((16 : Int), n)] = true := by
    simp only [isU64, List.all_cons, List.all_nil, Bool.and_true, Bool.and_eq_true, decide_eq_true_eq]; unfold u64max; omega
  have hok : [((16 : Int), n)].all okPart = true := by
    simp only [List.all_cons, List.all_nil, okPart, p16, Bool.and_true, Bool.and_eq_true, Bool.or_eq_true, decide_eq_true_eq]
    exact ⟨by omega, .inr (by omega)⟩
  have hbits : allBits [((16 : Int), n)] = bitsOf 16 n := by
    simp only [allBits, List.flatMap_cons, List.flatMap_nil, List.append_nil]; rfl
  unfold pack
  rw [if_pos ⟨hu, by simp⟩, if_pos hok, hbits, if_pos (by rw [bitsOf_length])]
  rfl
theorem pack_six (n : Int) (h0 : 0 ≤ n) (h1 : n < 281474976710656) : pack [(48, n)] = some (strOfNums (packB (bitsOf 48 n)), 0) := by
  have p48 : (2 : Int) ^ (48 : Int).toNat = 281474976710656 := by decide
  have hu : isU64 [((48 : Int), n)] = true := by
    simp only [isU64, List.all_cons, List.all_nil, Bool.and_true, Bool.and_eq_true, decide_eq_true_eq]; unfold u64max; omega
  have hok : [((48 : Int), n)].all okPart = true := by
    simp only [List.all_cons, List.all_nil, okPart, p48, Bool.and_true, Bool.and_eq_true, Bool.or_eq_true, decide_eq_true_eq]
    exact ⟨by omega, .inr (by omega)⟩
  have hbits : allBits [((48 : Int), n)] = bitsOf 48 n := by
    simp only [allBits, List.flatMap_cons, List.flatMap_nil, List.append_nil]; rfl
  unfold pack
  rw [if_pos ⟨hu, by simp⟩, if_pos hok, hbits, if_pos (by rw [bitsOf_length])]
  rfl

end Go.Proofs.Ytmdaaphjndjakaf.Gv

/- Plain words: the number of so many bytes of a string, from a place on; a tagged frame opened. No program in sight. -/
namespace Go.Proofs.Ytmdaaphjndjakaf.Gv
open Go.RowKit Go.Proofs.YtmdaaphjndjakafW.PrintWords
set_option linter.unusedVariables false

/-- The number of n bytes from place a on. -/
def numOf (s : ByteArray) (a n : Nat) : Int := valOf (((sBits s).drop (8 * a)).take (8 * n))
theorem flat_drop (n : Nat) : ∀ l : List Int, (l.flatMap fun b => bitsOf 8 b).drop (8 * n) = (l.drop n).flatMap fun b => bitsOf 8 b := by
  induction n with
  | zero => intro l; simp
  | succ n ih =>
    intro l
    cases l with
    | nil => simp
    | cons b l =>
      rw [List.flatMap_cons, List.drop_succ_cons, List.drop_append, bitsOf_length, List.drop_of_length_le (by rw [bitsOf_length]; omega), List.nil_append, show 8 * (n + 1) - 8 = 8 * n from by omega, ih]
theorem sBits_extract (s : ByteArray) (a : Nat) : sBits (s.extract a s.size) = (sBits s).drop (8 * a) := by
  unfold sBits
  rw [flat_drop, bytesOf_extract, List.take_of_length_le (by rw [bytesOf_length]; exact Nat.le_refl _)]
theorem drop_bits {l : List Int} (h : IsBits l) (k : Nat) : IsBits (l.drop k) := h.drop k
theorem num_bits (s : ByteArray) (a n : Nat) : IsBits (((sBits s).drop (8 * a)).take (8 * n)) := fun b hb => sBits_bits s b (List.mem_of_mem_drop (List.mem_of_mem_take hb))
theorem num_len (s : ByteArray) (a n : Nat) (h : a + n ≤ s.size) : (((sBits s).drop (8 * a)).take (8 * n)).length = 8 * n := by
  rw [List.length_take, List.length_drop, sBits_length]; omega
theorem numOf_range (s : ByteArray) (a n : Nat) (h : a + n ≤ s.size) : 0 ≤ numOf s a n ∧ numOf s a n < 2 ^ (8 * n) := by
  have := valOf_range (num_bits s a n)
  rwa [num_len s a n h] at this
theorem num_back (s : ByteArray) (a n : Nat) (h : a + n ≤ s.size) : bitsOf (8 * n) (numOf s a n) = ((sBits s).drop (8 * a)).take (8 * n) := by
  have := bitsOf_valOf (num_bits s a n)
  rwa [num_len s a n h] at this
theorem num_cut (s : ByteArray) (a n : Nat) (h : a + n ≤ s.size) : (sBits s).drop (8 * a) = bitsOf (8 * n) (numOf s a n) ++ (sBits s).drop (8 * (a + n)) := by
  rw [num_back s a n h, show 8 * (a + n) = 8 * a + 8 * n from by omega, ← List.drop_drop, List.take_append_drop]
theorem num_bytes (s : ByteArray) (a n : Nat) (h : a + n ≤ s.size) : strOfNums (packB (bitsOf (8 * n) (numOf s a n))) = s.extract a (a + n) := by
  rw [num_back s a n h]
  unfold sBits
  rw [flat_drop, flat_take]
  have := packB_bytes (((bytesOf s).drop a).take n) (fun b hb => bytesOf_range s b (List.mem_of_mem_drop (List.mem_of_mem_take hb))) []
  rw [List.append_nil, packB_nil, List.append_nil] at this
  rw [this]
  apply bytesOf_inj
  rw [bytesOf_str _ (fun b hb => bytesOf_range s b (List.mem_of_mem_drop (List.mem_of_mem_take hb))), bytesOf_extract, List.drop_take, show a + n - a = n from by omega]
theorem bits8_take (b : Int) (l : List Int) : (bitsOf 8 b ++ l).take 8 = bitsOf 8 b := by
  rw [List.take_append_of_le_length (by rw [bitsOf_length]; exact Nat.le_refl _), List.take_of_length_le (by rw [bitsOf_length]; exact Nat.le_refl _)]
theorem num_one (s : ByteArray) (a : Nat) (h : a < s.size) : numOf s a 1 = bt s (a : Int) := by
  unfold numOf sBits
  rw [flat_drop]
  have hl : a < (bytesOf s).length := by rw [bytesOf_length]; exact h
  rw [List.drop_eq_getElem_cons hl, List.flatMap_cons, show 8 * 1 = 8 from rfl, bits8_take, valOf_bitsOf, show (2 : Int) ^ 8 = 256 from by decide]
  have hr := bytesOf_range s (bytesOf s)[a] (List.getElem_mem hl)
  rw [bt_get, Int.toNat_natCast, List.getD_eq_getElem?_getD, List.getElem?_eq_getElem hl, Int.emod_eq_of_lt hr.1 (by omega)]
  rfl
/-- A number of m + n bytes: of the first m, then of n more. -/
theorem num_add (s : ByteArray) (a m n : Nat) (h : a + (m + n) ≤ s.size) : numOf s a (m + n) = numOf s a m * 2 ^ (8 * n) + numOf s (a + m) n := by
  have hl := num_len s (a + m) n (by omega)
  unfold numOf at *
  rw [show 8 * (m + n) = 8 * m + 8 * n from by omega, List.take_add, valOf_append, List.drop_drop, show 8 * a + 8 * m = 8 * (a + m) from by omega, hl]
theorem num_two (s : ByteArray) (a : Nat) (h : a + 2 ≤ s.size) : numOf s a 2 = bt s (a : Int) * 256 + bt s ((a + 1 : Nat) : Int) := by
  have := num_add s a 1 1 (by omega)
  rw [this, num_one s a (by omega), num_one s (a + 1) (by omega)]
  rfl
theorem split_one (s : ByteArray) (n : Nat) (h1 : 1 ≤ n) (h8 : n ≤ 8) (h : n ≤ s.size) : split s [((8 * n : Nat) : Int)] = ([valOf ((sBits s).take (8 * n))], s.extract n s.size, 0) := by
  have e1 : okW [((8 * n : Nat) : Int)] = true := by simp [okW]; omega
  have e2 : sumW [((8 * n : Nat) : Int)] = ((8 * n : Nat) : Int) := by simp [sumW]
  have e3 : vals (sBits s) [((8 * n : Nat) : Int)] = [valOf ((sBits s).take (8 * n))] := rfl
  unfold split
  rw [if_pos e1, e2, if_pos (by omega), if_neg (by omega), e3, show (((8 * n : Nat) : Int) / 8).toNat = n from by omega]

/-! ### a tagged frame -/
def tagW : List Int := [48, 48, 16, 3, 1, 12, 16]
theorem split_tag (s : ByteArray) (h : 18 ≤ s.size) :
    split s tagW = ([numOf s 0 6, numOf s 6 6, numOf s 12 2, numOf s 14 2 / 8192, numOf s 14 2 / 4096 % 2, numOf s 14 2 % 4096, numOf s 16 2], s.extract 18 s.size, 0) := by
  have e1 : okW tagW = true := by decide
  have e2 : sumW tagW = 144 := by decide
  unfold split
  rw [if_pos e1, e2, if_pos (by decide), if_neg (by omega)]
  have r0 := numOf_range s 0 6 (by omega); have r1 := numOf_range s 6 6 (by omega); have r2 := numOf_range s 12 2 (by omega); have r3 := numOf_range s 14 2 (by omega); have r4 := numOf_range s 16 2 (by omega)
  have c0 := num_cut s 0 6 (by omega); have c1 := num_cut s 6 6 (by omega); have c2 := num_cut s 12 2 (by omega); have c3 := num_cut s 14 2 (by omega); have c4 := num_cut s 16 2 (by omega)
  have p48 : (2 : Int) ^ (8 * 6) = 281474976710656 := by decide
  have p16 : (2 : Int) ^ (8 * 2) = 65536 := by decide
  rw [p48] at r0 r1
  rw [p16] at r2 r3 r4
  rw [Nat.mul_zero, List.drop_zero] at c0
  have d3 : bitsOf (8 * 2) (numOf s 14 2) = bitsOf 3 (numOf s 14 2 / 8192) ++ (bitsOf 1 (numOf s 14 2 / 4096) ++ bitsOf 12 (numOf s 14 2)) := by
    have a1 := bitsOf_add 4 12 (numOf s 14 2)
    have a2 := bitsOf_add 3 1 (numOf s 14 2 / 2 ^ 12)
    rw [show (2 : Int) ^ 12 = 4096 from by decide] at a1 a2
    rw [show (2 : Int) ^ 1 = 2 from by decide, Int.ediv_ediv_of_nonneg (by decide)] at a2
    rw [← List.append_assoc]
    exact a1.trans (by rw [show (4 : Nat) = 3 + 1 from rfl, a2]; rfl)
  have e4 : vals (sBits s) tagW = [numOf s 0 6, numOf s 6 6, numOf s 12 2, numOf s 14 2 / 8192, numOf s 14 2 / 4096 % 2, numOf s 14 2 % 4096, numOf s 16 2] := by
    rw [c0, c1, c2, c3, c4, d3, List.append_assoc, List.append_assoc, show tagW = (((8 * 6 : Nat) : Int)) :: ((8 * 6 : Nat) : Int) :: ((8 * 2 : Nat) : Int) :: ((3 : Nat) : Int) :: ((1 : Nat) : Int) :: ((12 : Nat) : Int) :: ((8 * 2 : Nat) : Int) :: [] from rfl]
    rw [vals_cons, vals_cons, vals_cons, vals_cons, vals_cons, vals_cons, vals_cons, vals_none, p48, p16]
    rw [show (2 : Int) ^ 3 = 8 from by decide, show (2 : Int) ^ 1 = 2 from by decide, show (2 : Int) ^ 12 = 4096 from by decide]
    rw [Int.emod_eq_of_lt r0.1 r0.2, Int.emod_eq_of_lt r1.1 r1.2, Int.emod_eq_of_lt r2.1 r2.2, Int.emod_eq_of_lt r4.1 r4.2, Int.emod_eq_of_lt (a := numOf s 14 2 / 8192) (by omega) (by omega)]
  rw [e4]
  rfl
theorem split_tag_short (s : ByteArray) (h : s.size < 18) : split s tagW = ([], ⟨#[]⟩, 1) := by
  have e1 : okW tagW = true := by decide
  have e2 : sumW tagW = 144 := by decide
  unfold split
  rw [if_pos e1, e2, if_pos (by decide), if_pos (by omega)]
/-- Nothing, and what is wrong. -/
def tagNone (e : Int) : Int × Int × Int × Bool × Int × Int × ByteArray × Int := (0, 0, 0, false, 0, 0, ⟨#[]⟩, e)
/-- The frame of bytes, or what is wrong. -/
def tagOpen (s : ByteArray) : Int × Int × Int × Bool × Int × Int × ByteArray × Int :=
  if s.size > 1600 then tagNone 2
  else if s.size < 18 then tagNone 1
  else if numOf s 12 2 = 33024 then
    (if tagWrong (numOf s 0 6) (numOf s 6 6) (numOf s 14 2 / 8192) (numOf s 14 2 % 4096) (numOf s 16 2) (s.size - 18) = 0
      then (numOf s 0 6, numOf s 6 6, numOf s 14 2 / 8192, numOf s 14 2 / 4096 % 2 == 1, numOf s 14 2 % 4096, numOf s 16 2, s.extract 18 s.size, 0)
      else tagNone (tagWrong (numOf s 0 6) (numOf s 6 6) (numOf s 14 2 / 8192) (numOf s 14 2 % 4096) (numOf s 16 2) (s.size - 18)))
  else tagNone 5
theorem tagHead_packed (d s p : Int) (b : Bool) (v t : Int) (hd0 : 0 ≤ d) (hd1 : d < 281474976710656) (hs0 : 0 ≤ s) (hs1 : s < 281474976710656) (hp0 : 0 ≤ p) (hp1 : p ≤ 7) (hv0 : 0 ≤ v) (hv1 : v ≤ 4095) (ht0 : 0 ≤ t) (ht1 : t ≤ 65535) (body : ByteArray) :
    split (tagHead d s p b v t ++ body) tagW = ([d, s, 33024, p, bt1 b, v, t], body, 0) := by
  have h := pack_tag d s p b v t hd0 hd1 hs0 hs1 hp0 hp1 hv0 hv1 ht0 ht1
  unfold pack at h
  by_cases h1 : isU64 (tagParts d s p b v t) = true ∧ (tagParts d s p b v t).length ≤ 1000000
  · rw [if_pos h1] at h
    by_cases h2 : (tagParts d s p b v t).all okPart = true
    · rw [if_pos h2] at h
      by_cases h3 : (allBits (tagParts d s p b v t)).length % 8 = 0
      · rw [if_pos h3] at h
        have e : ofNums (packB (allBits (tagParts d s p b v t))) = tagHead d s p b v t := (Prod.mk.inj (Option.some.inj h)).1
        rw [← e]
        exact split_pack (tagParts d s p b v t) h2 h1.1 h3 body
      · rw [if_neg h3] at h; simp at h
    · rw [if_neg h2] at h; simp at h
  · rw [if_neg h1] at h; simp at h
theorem tagWrong_zero {d s p v t : Int} {n : Nat} (h : tagWrong d s p v t n = 0) : (d < 281474976710656 ∧ s < 281474976710656 ∧ s / 1099511627776 % 2 = 0) ∧ (p ≤ 7 ∧ 1 ≤ v ∧ v ≤ 4094) ∧ ¬ t < 1536 ∧ ¬ n > 1582 := by
  unfold tagWrong at h
  by_cases h1 : d < 281474976710656 ∧ s < 281474976710656 ∧ s / 1099511627776 % 2 = 0
  · rw [if_pos h1] at h
    by_cases h2 : p ≤ 7 ∧ 1 ≤ v ∧ v ≤ 4094
    · rw [if_pos h2] at h
      by_cases h3 : t < 1536
      · rw [if_pos h3] at h; omega
      · rw [if_neg h3] at h
        by_cases h4 : n > 1582
        · rw [if_pos h4] at h; omega
        · exact ⟨h1, h2, h3, h4⟩
    · rw [if_neg h2] at h; omega
  · rw [if_neg h1] at h; omega
/-- What is closed is opened as it was. -/
theorem tag_there (d s p : Int) (b : Bool) (v t : Int) (body : ByteArray) (hd0 : 0 ≤ d) (hs0 : 0 ≤ s) (hp0 : 0 ≤ p) (hv0 : 0 ≤ v) (ht0 : 0 ≤ t) (ht1 : t ≤ 65535) (h : tagWrong d s p v t body.size = 0) :
    tagOpen (tagHead d s p b v t ++ body) = (d, s, p, b, v, t, body, 0) := by
  have hz := tagWrong_zero h
  have hsz : (tagHead d s p b v t ++ body).size = 18 + body.size := by rw [ByteArray.size_append, tagHead_size]
  have e1 := tagHead_packed d s p b v t hd0 hz.1.1 hs0 hz.1.2.1 hp0 hz.2.1.1 hv0 (by omega) ht0 ht1 body
  have e2 := split_tag (tagHead d s p b v t ++ body) (by omega)
  rw [e1] at e2
  generalize tagHead d s p b v t ++ body = x at e2 hsz
  simp only [Prod.mk.injEq, List.cons.injEq, and_true] at e2
  obtain ⟨⟨a0, a1, a2, a3, a4, a5, a6⟩, a7⟩ := e2
  unfold tagOpen
  rw [if_neg (by omega), if_neg (by omega), ← a0, ← a1, ← a2, ← a3, ← a4, ← a5, ← a6, ← a7, if_pos rfl, hsz, show 18 + body.size - 18 = body.size from by omega, if_pos h]
  have eb : (bt1 b == 1) = b := by cases b <;> rfl
  rw [eb]
theorem ext_join (s : ByteArray) (a b c : Nat) (h1 : a ≤ b) (h2 : b ≤ c) (h3 : c ≤ s.size) : s.extract a b ++ s.extract b c = s.extract a c := by
  apply bytesOf_inj
  rw [bytesOf_append, bytesOf_extract, bytesOf_extract, bytesOf_extract]
  have hl : (bytesOf s).length = s.size := bytesOf_length s
  rw [List.drop_take, List.drop_take, List.drop_take, show c - a = (b - a) + (c - b) from by omega, List.take_add, List.drop_drop, show a + (b - a) = b from by omega]
theorem ext_whole (s : ByteArray) : s.extract 0 s.size = s := by
  apply bytesOf_inj
  rw [bytesOf_extract, List.take_of_length_le (by rw [bytesOf_length]; exact Nat.le_refl _), List.drop_zero]
theorem bt1_of (n : Int) : bt1 (n % 2 == 1) = n % 2 := by
  rcases mod2 n with h | h <;> rw [h] <;> rfl
/-- What is opened is closed as it was. -/
theorem tag_back (s : ByteArray) (h : 18 ≤ s.size) (hm : numOf s 12 2 = 33024) :
    tagHead (numOf s 0 6) (numOf s 6 6) (numOf s 14 2 / 8192) (numOf s 14 2 / 4096 % 2 == 1) (numOf s 14 2 % 4096) (numOf s 16 2) ++ s.extract 18 s.size = s := by
  have b0 := num_bytes s 0 6 (by omega); have b1 := num_bytes s 6 6 (by omega); have b2 := num_bytes s 12 2 (by omega); have b3 := num_bytes s 14 2 (by omega); have b4 := num_bytes s 16 2 (by omega)
  rw [hm, show 8 * 2 = 16 from rfl, tag_mark, show strOfNums [129, 0] = (⟨#[129, 0]⟩ : ByteArray) from rfl] at b2
  have en : numOf s 14 2 / 8192 * 8192 + numOf s 14 2 % 4096 + bt1 (numOf s 14 2 / 4096 % 2 == 1) * 4096 = numOf s 14 2 := by
    rw [bt1_of]; omega
  unfold tagHead
  rw [en]
  rw [show (16 : Nat) = 8 * 2 from rfl, show (48 : Nat) = 8 * 6 from rfl, b0, b1, b2, b3, b4]
  simp only [Nat.reduceAdd]
  rw [ext_join s 0 6 12 (by omega) (by omega) (by omega), ext_join s 0 12 14 (by omega) (by omega) (by omega), ext_join s 0 14 16 (by omega) (by omega) (by omega), ext_join s 0 16 18 (by omega) (by omega) (by omega), ext_join s 0 18 s.size (by omega) (by omega) (by omega), ext_whole]

end Go.Proofs.Ytmdaaphjndjakaf.Gv

/- Plain words of layer 5: a message read. No program in sight. -/
namespace Go.Proofs.Ytmdaaphjndjakaf.Gv
open Go.RowKit Go.Proofs.YtmdaaphjndjakafW.PrintWords
set_option linter.unusedVariables false

/-- Are the first i bytes 0? -/
def allz (s : ByteArray) : Nat → Bool
  | 0 => true
  | i + 1 => allz s i && (bt s i == 0)
theorem allz_false (s : ByteArray) (i : Nat) (h : allz s i = false) (d : Nat) : allz s (i + d) = false := by
  induction d with
  | zero => exact h
  | succ d ih => show (allz s (i + d) && _) = false; rw [ih]; rfl
theorem allz_all (s : ByteArray) (i : Nat) : allz s i = true ↔ ∀ j : Nat, j < i → bt s (j : Int) = 0 := by
  induction i with
  | zero => simp [allz]
  | succ i ih =>
    show (allz s i && (bt s i == 0)) = true ↔ _
    rw [Bool.and_eq_true, ih, beq_iff_eq]
    constructor
    · intro h j hj
      by_cases e : j = i
      · rw [e]; exact h.2
      · exact h.1 j (by omega)
    · intro h
      exact ⟨fun j hj => h j (by omega), h i (by omega)⟩
theorem allz_str (s : ByteArray) : allz s s.size = true ↔ s = strOfNums (List.replicate s.size 0) := by
  rw [allz_all]
  have hr : ∀ b ∈ List.replicate s.size (0 : Int), 0 ≤ b ∧ b ≤ 255 := by
    intro b hb
    have := (List.mem_replicate.1 hb).2
    omega
  constructor
  · intro h
    apply bytesOf_inj
    rw [bytesOf_str _ hr]
    rw [List.eq_replicate_iff]
    refine ⟨bytesOf_length s, fun b hb => ?_⟩
    obtain ⟨i, hi, rfl⟩ := List.getElem_of_mem hb
    have := h i (by rw [← bytesOf_length]; exact hi)
    rw [bt_get, Int.toNat_natCast, List.getD_eq_getElem?_getD, List.getElem?_eq_getElem hi] at this
    exact this
  · intro h j hj
    have e : bytesOf s = List.replicate s.size 0 := by
      have := congrArg bytesOf h
      rwa [bytesOf_str _ hr] at this
    rw [bt_get, e, Int.toNat_natCast, List.getD_eq_getElem?_getD, List.getElem?_replicate, if_pos hj]
    rfl
theorem str_list {s t : ByteArray} : s.toList = t.toList ↔ s = t := by
  rw [ByteArray.toList_eq, ByteArray.toList_eq]
  constructor
  · intro h
    exact ByteArray.ext (Array.toList_inj.1 h)
  · intro h; rw [h]

theorem split_raps (c : ByteArray) (h : 8 ≤ c.size) :
    split c [4, 4, 1, 1, 1, 5, 48] = ([bt c 0 / 16, bt c 0 % 16, bt c 1 / 128, bt c 1 / 64 % 2, bt c 1 / 32 % 2, bt c 1 % 32, numOf c 2 6], c.extract 8 c.size, 0) := by
  have e1 : okW [4, 4, 1, 1, 1, 5, 48] = true := by decide
  have e2 : sumW [4, 4, 1, 1, 1, 5, 48] = 64 := by decide
  unfold split
  rw [if_pos e1, e2, if_pos (by decide), if_neg (by omega)]
  have r2 := numOf_range c 2 6 (by omega)
  have b0 := bt_range c 0; have b1 := bt_range c 1
  have c0 := num_cut c 0 1 (by omega); have c1 := num_cut c 1 1 (by omega); have c2 := num_cut c 2 6 (by omega)
  rw [num_one c 0 (by omega)] at c0
  rw [num_one c 1 (by omega)] at c1
  have p48 : (2 : Int) ^ (8 * 6) = 281474976710656 := by decide
  rw [p48] at r2
  rw [Nat.mul_zero, List.drop_zero] at c0
  have d0 : bitsOf (8 * 1) (bt c ((0 : Nat) : Int)) = bitsOf 4 (bt c 0 / 16) ++ bitsOf 4 (bt c 0) := bitsOf_add 4 4 (bt c 0)
  have d1 : bitsOf (8 * 1) (bt c ((1 : Nat) : Int)) = bitsOf 1 (bt c 1 / 128) ++ (bitsOf 1 (bt c 1 / 64) ++ (bitsOf 1 (bt c 1 / 32) ++ bitsOf 5 (bt c 1))) := by
    have a1 := bitsOf_add 3 5 (bt c 1)
    have a2 := bitsOf_add 2 1 (bt c 1 / 2 ^ 5)
    have a3 := bitsOf_add 1 1 (bt c 1 / 2 ^ 5 / 2 ^ 1)
    rw [show (2 : Int) ^ 5 = 32 from by decide] at a1 a2 a3
    rw [show (2 : Int) ^ 1 = 2 from by decide] at a2 a3
    rw [Int.ediv_ediv_of_nonneg (by decide)] at a2 a3
    rw [Int.ediv_ediv_of_nonneg (by decide)] at a3
    show bitsOf (3 + 5) (bt c 1) = _
    rw [a1, show (3 : Nat) = 2 + 1 from rfl, a2, show (2 : Nat) = 1 + 1 from rfl, a3, List.append_assoc, List.append_assoc]
    rfl
  have e4 : vals (sBits c) [4, 4, 1, 1, 1, 5, 48] = [bt c 0 / 16, bt c 0 % 16, bt c 1 / 128, bt c 1 / 64 % 2, bt c 1 / 32 % 2, bt c 1 % 32, numOf c 2 6] := by
    rw [c0, c1, c2, d0, d1]
    simp only [List.append_assoc]
    rw [show ([4, 4, 1, 1, 1, 5, 48] : List Int) = ((4 : Nat) : Int) :: ((4 : Nat) : Int) :: ((1 : Nat) : Int) :: ((1 : Nat) : Int) :: ((1 : Nat) : Int) :: ((5 : Nat) : Int) :: ((8 * 6 : Nat) : Int) :: [] from rfl]
    rw [vals_cons, vals_cons, vals_cons, vals_cons, vals_cons, vals_cons, vals_cons, vals_none, p48]
    rw [show (2 : Int) ^ 4 = 16 from by decide, show (2 : Int) ^ 1 = 2 from by decide, show (2 : Int) ^ 5 = 32 from by decide]
    rw [Int.emod_eq_of_lt r2.1 r2.2, Int.emod_eq_of_lt (a := bt c 0 / 16) (by omega) (by omega), Int.emod_eq_of_lt (a := bt c 1 / 128) (by omega) (by omega)]
  rw [e4]
  rfl

/-- Nothing, and what is wrong. -/
def rapsNone (e : Int) : Int × Bool × Bool × Bool × Int × Int := (0, false, false, false, 0, e)
/-- A message's content, read. -/
def rapsRead (f : Int) (c : ByteArray) : Int × Bool × Bool × Bool × Int × Int :=
  if f = 0 ∧ bt c 0 % 16 = 0 ∧ bt c 1 % 32 = 0 ∧ c.extract 8 c.size = strOfNums (List.replicate 24 0) then
    (if rapsWrong (bt c 0 / 16) (bt c 1 / 128 == 1) (numOf c 2 6) = 0
      then (bt c 0 / 16, bt c 1 / 128 == 1, bt c 1 / 64 % 2 == 1, bt c 1 / 32 % 2 == 1, numOf c 2 6, 0)
      else rapsNone (rapsWrong (bt c 0 / 16) (bt c 1 / 128 == 1) (numOf c 2 6)))
  else rapsNone 3
theorem rapsWrong_zero {r : Int} {b : Bool} {n : Int} (h : rapsWrong r b n = 0) : (r = 0 ∨ r = 7 ∨ r = 11 ∨ r = 13) ∧ n < 281474976710656 := by
  unfold rapsWrong at h
  by_cases h1 : r = 0 ∨ r = 7 ∨ r = 11 ∨ r = 13
  · rw [if_pos h1] at h
    refine ⟨h1, ?_⟩
    by_cases h2 : b = true ∧ r ≠ 0
    · rw [if_pos h2] at h; omega
    · rw [if_neg h2] at h
      by_cases h3 : n < 281474976710656 ∧ n / 1099511627776 % 2 = 0
      · exact h3.1
      · rw [if_neg h3] at h; omega
  · rw [if_neg h1] at h; omega
theorem bi_of (n : Int) : bi (n % 2 == 1) = n % 2 := by
  rcases mod2 n with h | h <;> rw [h] <;> rfl
/-- The numbers in a body. -/
theorem body_bytes (r : Int) (b k e : Bool) (n : Int) (hr0 : 0 ≤ r) (hr1 : r ≤ 15) : bytesOf (rapsBody r b k e n) = (r * 16) :: (bi b * 128 + bi k * 64 + bi e * 32) :: (packB (bitsOf 48 n) ++ List.replicate 24 0) := by
  have hb := bi_range b; have hk := bi_range k; have he := bi_range e
  have hz : ∀ x ∈ List.replicate 24 (0 : Int), 0 ≤ x ∧ x ≤ 255 := by
    intro x hx
    have := (List.mem_replicate.1 hx).2
    omega
  have h2 : ∀ x ∈ [r * 16, bi b * 128 + bi k * 64 + bi e * 32], 0 ≤ x ∧ x ≤ 255 := by
    intro x hx; simp at hx; omega
  unfold rapsBody
  rw [bytesOf_append, bytesOf_append, bytesOf_str _ h2, bytesOf_str _ (packB_range (bitsOf_bits _ _)), bytesOf_str _ hz]
  rfl
/-- What is closed is read as it was. -/
theorem raps_there (r : Int) (b k e : Bool) (n : Int) (hr0 : 0 ≤ r) (hn0 : 0 ≤ n) (h : rapsWrong r b n = 0) : rapsRead 0 (rapsBody r b k e n) = (r, b, k, e, n, 0) := by
  have hz := rapsWrong_zero h
  have hb := bi_range b; have hk := bi_range k; have he := bi_range e
  have hby := body_bytes r b k e n hr0 (by omega)
  have hsz := rapsBody_size r b k e n
  generalize rapsBody r b k e n = c at hby hsz
  have g0 : bt c 0 = r * 16 := by rw [bt_get, hby]; rfl
  have g1 : bt c 1 = bi b * 128 + bi k * 64 + bi e * 32 := by rw [bt_get, hby]; rfl
  have hpl : (packB (bitsOf 48 n)).length = 6 := by rw [packB_length, bitsOf_length]
  have g2 : numOf c 2 6 = n := by
    unfold numOf sBits
    rw [flat_drop, hby]
    simp only [List.drop_succ_cons, List.drop_zero]
    rw [List.flatMap_append, packB_flat 6 _ (bitsOf_bits _ _) (bitsOf_length _ _), List.take_append_of_le_length (by rw [bitsOf_length]; exact Nat.le_refl _), List.take_of_length_le (by rw [bitsOf_length]; exact Nat.le_refl _), valOf_bitsOf, show (2 : Int) ^ 48 = 281474976710656 from by decide, Int.emod_eq_of_lt hn0 hz.2]
  have g3 : c.extract 8 c.size = strOfNums (List.replicate 24 0) := by
    apply bytesOf_inj
    rw [bytesOf_extract, List.take_of_length_le (by rw [bytesOf_length]; exact Nat.le_refl _), hby]
    have hzr : ∀ x ∈ List.replicate 24 (0 : Int), 0 ≤ x ∧ x ≤ 255 := by
      intro x hx
      have := (List.mem_replicate.1 hx).2
      omega
    rw [bytesOf_str _ hzr]
    simp only [List.drop_succ_cons]
    rw [List.drop_left' hpl]
  have eb : (bi b * 128 + bi k * 64 + bi e * 32) / 128 = bi b := by omega
  have ek : (bi b * 128 + bi k * 64 + bi e * 32) / 64 % 2 = bi k := by omega
  have ee : (bi b * 128 + bi k * 64 + bi e * 32) / 32 % 2 = bi e := by omega
  have q : ∀ x : Bool, (bi x == 1) = x := by intro x; cases x <;> rfl
  unfold rapsRead
  rw [g0, g1, g2, g3, eb, ek, ee, q, q, q, show r * 16 / 16 = r from by omega]
  rw [if_pos ⟨rfl, by omega, by omega, rfl⟩, if_pos h]
/-- What is read is closed as it was. -/
theorem raps_back (c : ByteArray) (hc : c.size = 32) (h0 : bt c 0 % 16 = 0) (h1 : bt c 1 % 32 = 0) (h3 : c.extract 8 c.size = strOfNums (List.replicate 24 0)) :
    rapsBody (bt c 0 / 16) (bt c 1 / 128 == 1) (bt c 1 / 64 % 2 == 1) (bt c 1 / 32 % 2 == 1) (numOf c 2 6) = c := by
  have b0 := bt_range c 0; have b1 := bt_range c 1
  have hb : bi (bt c 1 / 128 == 1) = bt c 1 / 128 := by
    have := bi_of (bt c 1 / 128)
    rwa [Int.emod_eq_of_lt (a := bt c 1 / 128) (by omega) (by omega)] at this
  have n6 := num_bytes c 2 6 (by omega)
  unfold rapsBody
  rw [hb, bi_of, bi_of, ← h3, show bt c 0 / 16 * 16 = bt c 0 from by omega, show bt c 1 / 128 * 128 + bt c 1 / 64 % 2 * 64 + bt c 1 / 32 % 2 * 32 = bt c 1 from by omega]
  rw [show (48 : Nat) = 8 * 6 from rfl, n6]
  have e2 : strOfNums [bt c 0, bt c 1] = c.extract 0 2 := by
    apply bytesOf_inj
    rw [bytesOf_str _ (by intro x hx; simp at hx; omega), bytesOf_extract, List.drop_zero]
    have hh := bytesOf_head c 2 (by omega)
    rw [hh, List.take_left' (by simp)]
    rfl
  rw [e2]
  simp only [Nat.reduceAdd]
  rw [ext_join c 0 2 8 (by omega) (by omega) (by omega), ext_join c 0 8 c.size (by omega) (by omega) (by omega), ext_whole]

end Go.Proofs.Ytmdaaphjndjakaf.Gv

/- Noughts of layer 1: are all bytes 0? -/
namespace Go.Proofs.Ytmdaaphjndjakaf.LRapsOpens
open Go.RowKit Go.Proofs.Ytmdaaphjndjakaf.PRapsOpens Go.Proofs.YtmdaaphjndjakafW.PrintWords Go.Proofs.YtmdaaphjndjakafW.PrintLast Go.Proofs.YtmdaaphjndjakafW.PrintMore Go.Proofs.Ytmdaaphjndjakaf
set_option linter.unusedVariables false
set_option linter.unusedSimpArgs false

theorem ev_nought_loop (s : ByteArray) (hs : s.size ≤ 100000) (d : Nat) : ∀ i : Nat, s.size - i = d → i ≤ s.size → Gv.allz s i = true →
    Ev (fun k => field_Noughts.l0 k s (s.size : Int) (i : Int)) (Gv.allz s s.size) := by
  induction d with
  | zero =>
    intro i hi hi2 hz
    obtain rfl : i = s.size := by omega
    rw [hz]
    refine Ev.step (f := fun _ => some true) (fun k => ?_) (Ev.now _)
    simp only [field_Noughts.l0]
    rw [if_neg (by omega)]
  | succ d ih =>
    intro i hi hi2 hz
    by_cases hb : bt s (i : Int) = 0
    · have h := ih (i + 1) (by omega) (by omega) (by simp [Gv.allz, hz, hb])
      refine Ev.step (fun k => ?_) h
      simp only [field_Noughts.l0]
      rw [if_pos (by omega), if_pos (by omega), if_pos (by omega), if_pos hb, sw_wrap (by omega) (by omega)]
      rfl
    · have hf : Gv.allz s s.size = false := by
        have := Gv.allz_false s (i + 1) (by simp [Gv.allz, hb]) (s.size - (i + 1))
        rwa [show i + 1 + (s.size - (i + 1)) = s.size from by omega] at this
      rw [hf]
      refine Ev.step (f := fun _ => some false) (fun k => ?_) (Ev.now _)
      simp only [field_Noughts.l0]
      rw [if_pos (by omega), if_pos (by omega), if_pos (by omega), if_neg hb]
theorem ev_noughts (s : ByteArray) (hs : s.size ≤ 100000) : Ev (fun k => field_Noughts.f k s) (decide (s = strOfNums (List.replicate s.size 0))) := by
  have h := ev_nought_loop s hs _ 0 rfl (by omega) rfl
  have e : Gv.allz s s.size = decide (s = strOfNums (List.replicate s.size 0)) := by
    have := Gv.allz_str s
    by_cases hz : s = strOfNums (List.replicate s.size 0)
    · rw [decide_eq_true hz]; exact this.2 hz
    · rw [decide_eq_false hz]
      cases hq : Gv.allz s s.size with
      | false => rfl
      | true => exact absurd (this.1 hq) hz
  rw [e] at h
  exact h

end Go.Proofs.Ytmdaaphjndjakaf.LRapsOpens

/- Layer 5, the program's Open: it comes to a plain word. -/
namespace Go.Proofs.Ytmdaaphjndjakaf.LRapsOpens
open Go.RowKit Go.Proofs.Ytmdaaphjndjakaf.PRapsOpens Go.Proofs.YtmdaaphjndjakafW.PrintWords Go.Proofs.YtmdaaphjndjakafW.PrintLast Go.Proofs.YtmdaaphjndjakafW.PrintMore Go.Proofs.Ytmdaaphjndjakaf
set_option linter.unusedVariables false
set_option linter.unusedSimpArgs false

/-- A head and a content, read. -/
def rapsOf (h : Int × Int × Int × Int × Int × ByteArray × Int) (lv : Int) : Int × Bool × Bool × Bool × Int × Int :=
  if h.2.2.2.2.2.2 = 0 then (if oamIs h.1 h.2.1 h.2.2.1 h.2.2.2.2.1 lv 1 40 32 = 0 then Gv.rapsRead h.2.2.2.1 h.2.2.2.2.2.1 else Gv.rapsNone (oamIs h.1 h.2.1 h.2.2.1 h.2.2.2.2.1 lv 1 40 32)) else Gv.rapsNone h.2.2.2.2.2.2
def rapsOpen (s : ByteArray) (lv : Int) : Int × Bool × Bool × Bool × Int × Int := rapsOf (oamOpen s) lv
theorem ro_end (c : ByteArray) (hc : c.size = 32) (x : Bool) (y0 y1 y2 y3 y4 y5 y6 : Int) (h0 : 0 ≤ y0 ∧ y0 ≤ 255) (h6 : 0 ≤ y6) :
    Ev (fun k => raps_Open.j1 k [y0, y1, y2, y3, y4, y5, y6] x) (if x = true then Gv.rapsNone 3 else if Gv.rapsWrong y0 (y2 == 1) y6 = 0 then (y0, y2 == 1, y3 == 1, y4 == 1, y6, 0) else Gv.rapsNone (Gv.rapsWrong y0 (y2 == 1) y6)) := by
  have hw := ev_rwrong y0 (y2 == 1) (y3 == 1) (y4 == 1) y6 h6
  refine Ev.step (f := fun k => raps_Open.j1 (k + 1) [y0, y1, y2, y3, y4, y5, y6] x) (fun k => rfl) ?_
  simp only [raps_Open.j1]
  cases x with
  | true => simp only [if_true]; exact Ev.now _
  | false =>
    obtain ⟨l, hl, hl7, r0, r2, r3, r4, r6⟩ : ∃ l : List Int, [y0, y1, y2, y3, y4, y5, y6] = l ∧ (l.length : Int) = 7 ∧ rd l 0 = y0 ∧ rd l 2 = y2 ∧ rd l 3 = y3 ∧ rd l 4 = y4 ∧ rd l 6 = y6 := ⟨_, rfl, rfl, rfl, rfl, rfl, rfl, rfl⟩
    rw [hl]
    simp only [Bool.false_eq_true, if_false, hl7, r0, r2, r3, r4, r6, Int.reduceLT, if_true, show y0 % 256 = y0 from by omega]
    refine Ev.bind hw ?_
    by_cases hz : Gv.rapsWrong y0 (y2 == 1) y6 = 0
    · simp only [if_pos hz]; exact Ev.now _
    · simp only [if_neg hz]; exact Ev.now _
theorem ro_bad (c : ByteArray) (e l v o f g : Int) (he : e ≠ 0) : Ev (fun k => raps_Open.j0 k c e l v o f g) (Gv.rapsNone e) := by
  refine Ev.step (f := fun k => raps_Open.j0 (k + 1) c e l v o f g) (fun k => rfl) ?_
  simp only [raps_Open.j0, if_neg he]
  exact Ev.now _
theorem ro_go (c : ByteArray) (hc : c.size = 32) (l v o f g : Int) : Ev (fun k => raps_Open.j0 k c 0 l v o f g) (Gv.rapsRead f c) := by
  have hsp := ev_split c (by omega) [4, 4, 1, 1, 1, 5, 48] (by simp)
  rw [Gv.split_raps c (by omega)] at hsp
  have b0 := bt_range c 0; have b1 := bt_range c 1
  have q2 := Gv.numOf_range c 2 6 (by omega)
  have hz8 : (c.extract 8 c.size).size = 24 := by rw [size_ext c _ _ (Nat.le_refl _)]; omega
  have hn := ev_noughts (c.extract 8 c.size) (by omega)
  rw [hz8] at hn
  have hj := fun x => ro_end c hc x (bt c 0 / 16) (bt c 0 % 16) (bt c 1 / 128) (bt c 1 / 64 % 2) (bt c 1 / 32 % 2) (bt c 1 % 32) (Gv.numOf c 2 6) (by omega) q2.1
  refine Ev.step (f := fun k => raps_Open.j0 (k + 1) c 0 l v o f g) (fun k => rfl) ?_
  simp only [raps_Open.j0, if_true]
  refine Ev.bind hsp ?_
  have r1 : rd [bt c 0 / 16, bt c 0 % 16, bt c 1 / 128, bt c 1 / 64 % 2, bt c 1 / 32 % 2, bt c 1 % 32, Gv.numOf c 2 6] 1 = bt c 0 % 16 := rfl
  have r5 : rd [bt c 0 / 16, bt c 0 % 16, bt c 1 / 128, bt c 1 / 64 % 2, bt c 1 / 32 % 2, bt c 1 % 32, Gv.numOf c 2 6] 5 = bt c 1 % 32 := rfl
  have l7 : (([bt c 0 / 16, bt c 0 % 16, bt c 1 / 128, bt c 1 / 64 % 2, bt c 1 / 32 % 2, bt c 1 % 32, Gv.numOf c 2 6] : List Int).length : Int) = 7 := rfl
  simp only [if_true, r1, r5, l7, Int.reduceLT]
  unfold Gv.rapsRead
  have ht := hj true
  rw [if_pos rfl] at ht
  by_cases h1 : f = 0
  · simp only [if_pos h1]
    by_cases h2 : bt c 0 % 16 = 0
    · simp only [if_pos h2]
      by_cases h3 : bt c 1 % 32 = 0
      · simp only [if_pos h3]
        refine Ev.bind hn ?_
        by_cases h4 : c.extract 8 c.size = strOfNums (List.replicate 24 0)
        · rw [if_pos ⟨h1, h2, h3, h4⟩, decide_eq_true h4]
          have hf := hj false
          rw [if_neg (by simp)] at hf
          exact hf
        · rw [if_neg (fun h => h4 h.2.2.2), decide_eq_false h4]
          exact ht
      · simp only [if_neg h3]
        rw [if_neg (fun h => h3 h.2.2.1)]
        exact ht
    · simp only [if_neg h2]
      rw [if_neg (fun h => h2 h.2.1)]
      exact ht
  · simp only [if_neg h1]
    rw [if_neg (fun h => h1 h.1)]
    exact ht
theorem ev_ropen (s : ByteArray) (hs : s.size ≤ 100000) (lv : Int) : Ev (fun k => raps_Open.f k s lv) (rapsOpen s lv) := by
  have ho := ev_oam_open s hs
  have hf := oam_facts s
  unfold rapsOpen
  generalize oamOpen s = h at *
  obtain ⟨l, v, c, f, o, b, e⟩ := h
  unfold rapsOf
  simp only [raps_Open.f]
  refine Ev.bind ho ?_
  by_cases he : e = 0
  · have hf := hf he
    simp only [if_pos he]
    refine Ev.bind (ev_is l v c f o lv 1 40 32) ?_
    by_cases hi : oamIs l v c o lv 1 40 32 = 0
    · have hi2 := is_facts hi
      simp only [if_pos hi, hi]
      exact ro_go b (by have := hf.1; simp only at this; omega) l v c f o
    · simp only [if_neg hi]
      exact ro_bad b _ l v c f o hi
  · simp only [if_neg he]
    exact ro_bad b _ l v c f o he

end Go.Proofs.Ytmdaaphjndjakaf.LRapsOpens

/- Open of layer 4, the document's: it comes to the same plain word. -/
namespace Go.Proofs.Ytmdaaphjndjakaf.LRapsOpens
open Go.RowKit Go.Proofs.Ytmdaaphjndjakaf.PRapsOpens Go.Proofs.YtmdaaphjndjakafW.PrintWords Go.Proofs.YtmdaaphjndjakafW.PrintLast Go.Proofs.YtmdaaphjndjakafW.PrintMore Go.Proofs.Ytmdaaphjndjakaf
set_option linter.unusedVariables false
set_option linter.unusedSimpArgs false

theorem ev_ref_open (s : ByteArray) (hs : s.size ≤ 100000) : Ev (fun k => carouselref04_Open.f k s) (oamOpen s) := by
  have h3 := bt_range s 3
  have h0 := bt_range s 0
  have e3 : wrap64 (bt s 3) = bt s 3 := sw_wrap (by omega) (by omega)
  have e5 : wrap64 (5 + bt s 3) = 5 + bt s 3 := sw_wrap (by omega) (by omega)
  have e4 : wrap64 (4 + bt s 3) = 4 + bt s 3 := sw_wrap (by omega) (by omega)
  unfold oamOpen
  by_cases h4 : s.size < 4
  · rw [if_pos h4]
    refine Ev.congr (f := fun k => carouselref04_Open.j0 k s true) (fun k => ?_) (Ev.step (f := fun _ => some (0, 0, 0, 0, 0, (⟨#[]⟩ : ByteArray), 1)) (fun k => ?_) (Ev.now _))
    · unfold carouselref04_Open.f; rw [if_pos (by omega)]
    · simp only [carouselref04_Open.j0]; rw [if_pos trivial]
  · rw [if_neg h4]
    by_cases h5 : (s.size : Int) < 5 + bt s 3
    · rw [if_pos h5]
      refine Ev.congr (f := fun k => carouselref04_Open.j0 k s true) (fun k => ?_) (Ev.step (f := fun _ => some (0, 0, 0, 0, 0, (⟨#[]⟩ : ByteArray), 1)) (fun k => ?_) (Ev.now _))
      · unfold carouselref04_Open.f; rw [if_neg (by omega), if_pos (by omega), e3, e5, show decide ((s.size : Int) < 5 + bt s 3) = true from by simpa using h5]
      · simp only [carouselref04_Open.j0]; rw [if_pos trivial]
    · rw [if_neg h5]
      refine Ev.congr (f := fun k => carouselref04_Open.j0 k s false) (fun k => ?_) (Ev.step (f := fun _ => some (if bt s (4 + bt s 3) = 0 then (bt s 0 / 32, bt s 0 % 32, bt s 1, bt s 2, bt s 3, s.extract 4 (4 + bt s 3).toNat, 0) else (0, 0, 0, 0, 0, (⟨#[]⟩ : ByteArray), 3))) (fun k => ?_) (Ev.now _))
      · unfold carouselref04_Open.f; rw [if_neg (by omega), if_pos (by omega), e3, e5, show decide ((s.size : Int) < 5 + bt s 3) = false from by simpa using h5]
      · simp only [carouselref04_Open.j0]
        rw [if_neg (by simp), if_pos (by omega), e3, e4, if_pos (by omega), if_pos (by omega)]
        have d1 : Int.tdiv (bt s 0) 32 % 256 = bt s 0 / 32 := by rw [Int.tdiv_eq_ediv_of_nonneg h0.1]; omega
        have d2 : Int.tmod (bt s 0) 32 = bt s 0 % 32 := Int.tmod_eq_emod_of_nonneg h0.1
        by_cases hz : bt s (4 + bt s 3) = 0
        · rw [if_pos hz, if_pos hz, if_pos (by omega), if_pos (by omega), if_pos (by omega), if_pos (by omega), if_pos (by omega), d1, d2]
        · rw [if_neg hz, if_neg hz]

end Go.Proofs.Ytmdaaphjndjakaf.LRapsOpens

/- Layer 5, the document's: what is wrong with a message. -/
namespace Go.Proofs.Ytmdaaphjndjakaf.LRapsOpens
open Go.RowKit Go.Proofs.Ytmdaaphjndjakaf.PRapsOpens Go.Proofs.YtmdaaphjndjakafW.PrintWords Go.Proofs.YtmdaaphjndjakafW.PrintLast Go.Proofs.YtmdaaphjndjakafW.PrintMore Go.Proofs.Ytmdaaphjndjakaf
set_option linter.unusedVariables false
set_option linter.unusedSimpArgs false

theorem may_ref (n : Int) : carouselref02_May.f n = some (decide (n < 281474976710656)) := rfl
theorem group_ref (n : Int) (h0 : 0 ≤ n) (h1 : n < 281474976710656) : carouselref02_Group.f n = some (n / 1099511627776 % 2 == 1) := by
  unfold carouselref02_Group.f
  rw [may_ref, Option.bind_some, if_pos (by simpa using h1), Int.tdiv_eq_ediv_of_nonneg h0, oc_u64' (by omega) (by omega), Int.tmod_eq_emod_of_nonneg (by omega)]
theorem ev_rf1 (c : Bool) (r : Int) (b k1 e : Bool) (n : Int) (h0 : 0 ≤ n) : Ev (fun k => carouselref05_wrong.j1 k c r b k1 e n) (if c = true then 3 else rangeWrong n) := by
  by_cases hb : c = true
  · rw [if_pos hb]
    refine Ev.step (f := fun _ => some 3) (fun k => ?_) (Ev.now _)
    simp only [carouselref05_wrong.j1]
    rw [if_pos hb]
  · rw [if_neg hb]
    refine Ev.step (f := fun _ => some (rangeWrong n)) (fun k => ?_) (Ev.now _)
    simp only [carouselref05_wrong.j1]
    unfold rangeWrong
    rw [if_neg hb, may_ref, Option.bind_some]
    by_cases h : n < 281474976710656
    · rw [if_pos (by simpa using h), group_ref n h0 h, Option.bind_some]
      by_cases h2 : n / 1099511627776 % 2 = 0
      · rw [if_neg (by simp [h2]), if_pos ⟨h, h2⟩]
      · rw [if_pos (by simp; omega), if_neg (by omega)]
    · rw [if_neg (by simpa using h), if_neg (by omega)]
theorem ev_rf0 (c : Bool) (r : Int) (b k1 e : Bool) (n : Int) (h0 : 0 ≤ n) (hc : c = false ↔ (r = 0 ∨ r = 7 ∨ r = 11 ∨ r = 13)) : Ev (fun k => carouselref05_wrong.j0 k c r b k1 e n) (Gv.rapsWrong r b n) := by
  cases c with
  | true =>
    have hn : ¬ (r = 0 ∨ r = 7 ∨ r = 11 ∨ r = 13) := fun h => by have := hc.2 h; cases this
    unfold Gv.rapsWrong
    rw [if_neg hn]
    refine Ev.step (f := fun _ => some 8) (fun k => ?_) (Ev.now _)
    simp only [carouselref05_wrong.j0]
    rw [if_pos trivial]
  | false =>
    have hp := hc.1 rfl
    unfold Gv.rapsWrong
    rw [if_pos hp]
    by_cases hb : b = true
    · have h := ev_rf1 (r != 0) r b k1 e n h0
      have e1 : (if b = true ∧ r ≠ 0 then 3 else if n < 281474976710656 ∧ n / 1099511627776 % 2 = 0 then 0 else 4 : Int) = if (r != 0) = true then 3 else rangeWrong n := by
        unfold rangeWrong
        by_cases h2 : r = 0
        · simp [h2]
        · simp [hb, h2]
      rw [e1]
      refine Ev.step (fun k => ?_) h
      simp only [carouselref05_wrong.j0]
      rw [if_neg (by simp), if_pos hb]
    · have h := ev_rf1 false r b k1 e n h0
      rw [if_neg (by simp)] at h
      rw [if_neg (fun h => hb h.1)]
      refine Ev.step (fun k => ?_) h
      simp only [carouselref05_wrong.j0]
      rw [if_neg (by simp), if_neg hb]
theorem ev_rfwrong (r : Int) (b k1 e : Bool) (n : Int) (h0 : 0 ≤ n) : Ev (fun k => carouselref05_wrong.f k r b k1 e n) (Gv.rapsWrong r b n) := by
  by_cases c0 : r = 0
  · refine Ev.congr (fun k => ?_) (ev_rf0 false r b k1 e n h0 (by simp [c0]))
    unfold carouselref05_wrong.f; rw [if_pos c0]
  by_cases c7 : r = 7
  · refine Ev.congr (fun k => ?_) (ev_rf0 false r b k1 e n h0 (by simp [c7]))
    unfold carouselref05_wrong.f; rw [if_neg c0, if_pos c7]
  by_cases c11 : r = 11
  · refine Ev.congr (fun k => ?_) (ev_rf0 false r b k1 e n h0 (by simp [c11]))
    unfold carouselref05_wrong.f; rw [if_neg c0, if_neg c7, if_pos c11]
  · refine Ev.congr (fun k => ?_) (ev_rf0 (r != 13) r b k1 e n h0 (by simp [c0, c7, c11]))
    unfold carouselref05_wrong.f; rw [if_neg c0, if_neg c7, if_neg c11]

end Go.Proofs.Ytmdaaphjndjakaf.LRapsOpens

/- Split, the document's, as printed: it comes to the plain word split. -/
namespace Go.Proofs.Ytmdaaphjndjakaf.LRapsOpens
open Go.RowKit Go.Proofs.Ytmdaaphjndjakaf.PRapsOpens Go.Proofs.YtmdaaphjndjakafW.PrintWords Go.Proofs.YtmdaaphjndjakafW.PrintLast Go.Proofs.YtmdaaphjndjakafW.PrintMore Go.Proofs.Ytmdaaphjndjakaf
set_option linter.unusedVariables false
set_option linter.unusedSimpArgs false

/-! ### the document's Split -/
theorem set_mid' (d : Nat) (x y : Int) (l : List Int) : (List.replicate (d + 1) x ++ l).set d y = List.replicate d x ++ y :: l := by
  rw [List.replicate_succ', List.append_assoc, List.set_append_right _ _ (by simp)]
  simp
theorem div_succ' (v : Int) (m : Nat) : v / 2 ^ m / 2 = v / 2 ^ (m + 1) := by
  rw [Int.ediv_ediv_of_nonneg (Int.le_of_lt (Int.pow_pos (by decide))), Int.pow_succ]

theorem ev_bits8_loop (v : Int) (h0 : 0 ≤ v) (h1 : v ≤ 255) (d : Nat) (hd : d ≤ 8) :
    Ev (fun k => carouselref01_bits.l0 k (v / 2 ^ (8 - d)) (List.replicate d 0 ++ (Gv.bitsOf 8 v).drop d) ((d : Int) - 1)) (Gv.bitsOf 8 v, (v / 2 ^ 8 == 0)) := by
  induction d with
  | zero =>
    refine Ev.step (f := fun _ => some (Gv.bitsOf 8 v, (v / 2 ^ 8 == 0))) (fun k => ?_) (Ev.now _)
    simp [carouselref01_bits.l0]
  | succ d ih =>
    have hlen : (Gv.bitsOf 8 v).length = 8 := Gv.bitsOf_length 8 v
    refine Ev.step (fun k => ?_) (ih (by omega))
    simp only [carouselref01_bits.l0]
    have hx := div2_range v (8 - (d + 1)) h0 h1
    rw [if_pos (by omega), if_pos (by omega), if_pos (by simp [hlen]; omega)]
    have e1 : IntKind.u64.wrap (Int.tdiv (v / 2 ^ (8 - (d + 1))) 2) = v / 2 ^ (8 - d) := by
      rw [Int.tdiv_eq_ediv_of_nonneg hx.1, div_succ', show 8 - (d + 1) + 1 = 8 - d from by omega]
      have := div2_range v (8 - d) h0 h1
      exact sw_u64 this.1 (by omega)
    have e2 : wrap64 (((d + 1 : Nat) : Int) - 1 - 1) = (d : Int) - 1 := by rw [sw_wrap (by omega) (by omega)]; omega
    have e3 : (((d + 1 : Nat) : Int) - 1).toNat = d := by omega
    have e4 : wrap64 (Int.tmod (v / 2 ^ (8 - (d + 1))) 2) = (v / 2 ^ (8 - 1 - d)) % 2 := by
      rw [Int.tmod_eq_emod_of_nonneg hx.1, sw_wrap (by omega) (by omega), show 8 - (d + 1) = 8 - 1 - d from by omega]
    have e5 : (Gv.bitsOf 8 v).drop d = (v / 2 ^ (8 - 1 - d)) % 2 :: (Gv.bitsOf 8 v).drop (d + 1) := by
      rw [List.drop_eq_getElem_cons (by rw [hlen]; omega)]
      simp [Gv.bitsOf]
    rw [e1, e2, e3, e4, set_mid', e5]
theorem ev_bits8 (v : Int) (h0 : 0 ≤ v) (h1 : v ≤ 255) : Ev (fun k => carouselref01_bits.f k v 8) (Gv.bitsOf 8 v, (v / 2 ^ 8 == 0)) := by
  have h := ev_bits8_loop v h0 h1 8 (Nat.le_refl _)
  refine Ev.congr (fun k => ?_) h
  unfold carouselref01_bits.f
  rw [if_pos (by omega), if_pos (by decide), sw_wrap (by omega) (by omega)]
  rw [List.drop_of_length_le (Nat.le_of_eq (Gv.bitsOf_length 8 v)), List.append_nil]
  simp only [Nat.sub_self, Int.pow_zero, Int.ediv_one]
  rfl

/-- One part. -/
theorem ev_rpart (s : ByteArray) (hs : s.size ≤ 100000) (n : Int) (all out ws : List Int) (hall : Gv.IsBits all) (hal : all.length ≤ 800000) (i : Nat) (hi : i < ws.length) (hil : ws.length ≤ 1000) (at_ w : Nat) (hw : w ≤ 64) (hwi : ws[i] = (w : Int)) (ha : at_ + w ≤ all.length) (hout : out.length ≤ 1000) (r : List Int × ByteArray × Int)
    (hk : Ev (fun k => carouselref01_Split.l2 k s ws n all (out ++ [Gv.valOf ((all.drop at_).take w)]) ((at_ + w : Nat) : Int) ((i + 1 : Nat) : Int)) r) (d : Nat) :
    ∀ j : Nat, w - j = d → j ≤ w → Ev (fun k => carouselref01_Split.l3 k s ws n all out (at_ : Int) (i : Int) (Gv.valOf ((all.drop at_).take j)) (j : Int)) r := by
  induction d with
  | zero =>
    intro j hj hj2
    obtain rfl : j = w := by omega
    refine Ev.step (fun k => ?_) hk
    simp only [carouselref01_Split.l3]
    rw [if_pos (by omega), if_pos (by omega), sw_rd hi, hwi, if_neg (by omega), if_pos (by omega), sw_wrap (by omega) (by omega), sw_wrap (by omega) (by omega)]
    rfl
  | succ d ih =>
    intro j hj hj2
    have h := ih (j + 1) (by omega) (by omega)
    have hjl : j < (all.drop at_).length := by rw [List.length_drop]; omega
    rw [valOf_take_succ hjl, List.getElem_drop] at h
    have hbits : Gv.IsBits ((all.drop at_).take j) := fun b hb => hall b (List.mem_of_mem_drop (List.mem_of_mem_take hb))
    have hv := Gv.valOf_range hbits
    have hlj : ((all.drop at_).take j).length = j := by rw [List.length_take]; omega
    rw [hlj] at hv
    have hp := pow_le_63 (show j ≤ 63 by omega)
    have hbt := hall (all[at_ + j]'(by omega)) (List.getElem_mem _)
    have hrd : rd all (wrap64 ((at_ : Int) + j)) = all[at_ + j]'(by omega) := by
      rw [sw_wrap (by omega) (by omega), show (at_ : Int) + j = ((at_ + j : Nat) : Int) from by omega]; exact sw_rd _
    refine Ev.step (fun k => ?_) h
    simp only [carouselref01_Split.l3]
    rw [if_pos (by omega), if_pos (by omega), sw_rd hi, hwi, if_pos (by omega), if_pos (by rw [sw_wrap (by omega) (by omega)]; omega), if_pos (by rw [sw_wrap (by omega) (by omega)]; omega), hrd]
    clear hrd
    obtain ⟨b, hb⟩ : ∃ b, all[at_ + j]'(by omega) = b := ⟨_, rfl⟩
    rw [hb] at hbt ⊢
    clear hb
    generalize Gv.valOf ((all.drop at_).take j) = x at hv ⊢
    rw [sw_u64 (n := b) (by omega) (by omega), sw_u64 (n := x * 2) (by omega) (by omega), sw_u64 (by omega) (by omega), sw_wrap (by omega) (by omega)]
    rfl

theorem ev_rparts (s : ByteArray) (hs : s.size ≤ 100000) (ws all : List Int) (hall : Gv.IsBits all) (hl : ws.length ≤ 1000) (hok : Gv.okW ws = true) (h8 : Gv.sumW ws % 8 = 0) (hsz : Gv.sumW ws / 8 ≤ (s.size : Int)) (hal : (all.length : Int) = Gv.sumW ws) (d : Nat) :
    ∀ i : Nat, ws.length - i = d → i ≤ ws.length →
    Ev (fun k => carouselref01_Split.l2 k s ws (Gv.sumW ws) all (Gv.vals all (ws.take i)) (Gv.sumW (ws.take i)) (i : Int)) (Gv.vals all ws, s.extract (Gv.sumW ws / 8).toNat s.size, 0) := by
  have hb := sum_bound ws hok
  have e1 : wrap64 (Int.tdiv (Gv.sumW ws) 8) = Gv.sumW ws / 8 := by rw [Int.tdiv_eq_ediv_of_nonneg hb.1, sw_wrap (by omega) (by omega)]
  induction d with
  | zero =>
    intro i hi hi2
    rw [List.take_of_length_le (by omega)]
    refine Ev.step (f := fun _ => some (Gv.vals all ws, s.extract (Gv.sumW ws / 8).toNat s.size, 0)) (fun k => ?_) (Ev.now _)
    simp only [carouselref01_Split.l2]
    rw [if_neg (by omega), e1, if_pos (by omega), if_pos (by omega)]
  | succ d ih =>
    intro i hi hi2
    have hil : i < ws.length := by omega
    have h := ih (i + 1) (by omega) (by omega)
    have hwi := okW_get hok hil
    have hok2 := okW_take hok i
    have hb2 := sum_bound _ hok2
    have hle := sum_take_le ws hok i hil
    rw [sw_take hil, vals_snoc _ _ hok2, sum_snoc] at h
    obtain ⟨a, ha⟩ := Int.eq_ofNat_of_zero_le hb2.1
    obtain ⟨w, hw⟩ := Int.eq_ofNat_of_zero_le (show 0 ≤ ws[i] by omega)
    rw [hw, ha, Int.toNat_natCast, Int.toNat_natCast] at h
    have hp := ev_rpart s hs (Gv.sumW ws) all (Gv.vals all (ws.take i)) ws hall (by omega) i hil hl a w (by omega) hw (by omega) (by rw [vals_length, List.length_take]; omega) _ h w 0 rfl (by omega)
    refine Ev.step (fun k => ?_) hp
    simp only [carouselref01_Split.l2]
    rw [if_pos (by omega), ha]
    rfl

/-- The bits of the first bytes. -/
def firstB (s : ByteArray) (m : Nat) : List Int := ((bytesOf s).take m).flatMap fun b => Gv.bitsOf 8 b
theorem firstB_snoc (s : ByteArray) (m : Nat) (h : m < s.size) : firstB s (m + 1) = firstB s m ++ Gv.bitsOf 8 (bt s (m : Int)) := by
  unfold firstB
  have hl : m < (bytesOf s).length := by rw [bytesOf_length]; exact h
  rw [List.take_succ_eq_append_getElem hl, List.flatMap_append]
  congr 1
  have : (bytesOf s)[m] = bt s (m : Int) := by rw [← rd_bytesOf]; unfold rd; simp [List.getD_eq_getElem?_getD, hl]
  simp [this]
theorem firstB_bits (s : ByteArray) (m : Nat) : Gv.IsBits (firstB s m) := by
  intro b hb
  simp only [firstB, List.mem_flatMap] at hb
  obtain ⟨p, _, hb⟩ := hb
  exact Gv.bitsOf_bits _ _ b hb
theorem firstB_take (s : ByteArray) (m : Nat) : firstB s m = (Gv.sBits s).take (8 * m) := by
  have key : ∀ (l : List Int) (m : Nat), ((l.take m).flatMap fun b => Gv.bitsOf 8 b) = (l.flatMap fun b => Gv.bitsOf 8 b).take (8 * m) := by
    intro l
    induction l with
    | nil => intro m; simp
    | cons b l ih =>
      intro m
      cases m with
      | zero => simp
      | succ m =>
        rw [List.take_succ_cons, List.flatMap_cons, List.flatMap_cons, ih, List.take_append, Gv.bitsOf_length, List.take_of_length_le (l := Gv.bitsOf 8 b) (by rw [Gv.bitsOf_length]; omega), show 8 * (m + 1) - 8 = 8 * m from by omega]
  exact key _ m
theorem firstB_length (s : ByteArray) (m : Nat) (h : m ≤ s.size) : (firstB s m).length = 8 * m := by
  rw [firstB_take, List.length_take, Gv.sBits_length]; omega

theorem ev_rbytes (s : ByteArray) (hs : s.size ≤ 100000) (ws : List Int) (n : Int) (m : Nat) (hn : wrap64 (Int.tdiv n 8) = (m : Int)) (hm : m ≤ s.size) (r : List Int × ByteArray × Int)
    (hk : Ev (fun k => carouselref01_Split.l2 k s ws n (firstB s m) ([] : List Int) 0 0) r) (d : Nat) :
    ∀ i : Nat, m - i = d → i ≤ m → Ev (fun k => carouselref01_Split.l1 k s ws n (firstB s i) (i : Int)) r := by
  induction d with
  | zero =>
    intro i hi hi2
    obtain rfl : i = m := by omega
    refine Ev.step (fun k => ?_) hk
    simp only [carouselref01_Split.l1]
    rw [hn, if_neg (by omega)]
  | succ d ih =>
    intro i hi hi2
    have h := ih (i + 1) (by omega) (by omega)
    have hbt := bt_range s (i : Int)
    have hb8 := ev_bits8 (bt s (i : Int)) hbt.1 hbt.2
    have hfl := firstB_length s i (by omega)
    rw [firstB_snoc s i (by omega)] at h
    refine Ev.step (fun k => ?_) (Ev.bind hb8 (f := fun k bt => (if (firstB s i).length + bt.1.length < 17592186044416 then (carouselref01_Split.l1 k s ws n (firstB s i ++ bt.1) (wrap64 ((i : Int) + 1))) else (none))) (Ev.congr (fun k => ?_) h))
    · simp only [carouselref01_Split.l1]
      rw [hn, if_pos (by omega), if_pos (by omega), if_pos (by omega), sw_u64 hbt.1 (by omega)]
    · simp only
      rw [if_pos (by rw [Gv.bitsOf_length]; omega), sw_wrap (by omega) (by omega)]
      rfl

theorem vals_take (ws : List Int) (hok : Gv.okW ws = true) : ∀ (bits : List Int) (m : Nat), Gv.sumW ws ≤ (m : Int) → Gv.vals (bits.take m) ws = Gv.vals bits ws := by
  induction ws with
  | nil => intro bits m _; rfl
  | cons x ws ih =>
    intro bits m hm
    simp only [Gv.okW, List.all_cons, Bool.and_eq_true, decide_eq_true_eq] at hok
    have hb := sum_bound ws (by simp only [Gv.okW]; exact hok.2)
    have hs : Gv.sumW (x :: ws) = x + Gv.sumW ws := by
      have : ∀ (l : List Int) (c : Int), l.foldl (· + ·) c = c + l.foldl (· + ·) 0 := by
        intro l
        induction l with
        | nil => intro c; simp
        | cons y l ih2 => intro c; rw [List.foldl_cons, ih2, List.foldl_cons, ih2 (0 + y)]; omega
      unfold Gv.sumW
      rw [List.foldl_cons, this]; omega
    simp only [Gv.vals]
    rw [List.take_take, Nat.min_eq_left (by omega), List.drop_take, ih (by simp only [Gv.okW]; exact hok.2) _ _ (by omega)]

theorem ev_rsplit_loop (s : ByteArray) (hs : s.size ≤ 100000) (ws : List Int) (hl : ws.length ≤ 1000) (d : Nat) : ∀ i : Nat, ws.length - i = d → i ≤ ws.length → Gv.okW (ws.take i) = true →
    Ev (fun k => carouselref01_Split.l0 k s ws (Gv.sumW (ws.take i)) (i : Int)) (Gv.split s ws) := by
  induction d with
  | zero =>
    intro i hi hi2 hok
    rw [List.take_of_length_le (by omega)] at hok ⊢
    have hb := sum_bound ws hok
    have e1 : wrap64 (Int.tdiv (Gv.sumW ws) 8) = Gv.sumW ws / 8 := by rw [Int.tdiv_eq_ediv_of_nonneg hb.1, sw_wrap (by omega) (by omega)]
    have e2 : Int.tmod (Gv.sumW ws) 8 = Gv.sumW ws % 8 := Int.tmod_eq_emod_of_nonneg hb.1
    unfold Gv.split
    rw [if_pos hok]
    by_cases h8 : Gv.sumW ws % 8 = 0
    · rw [if_pos h8]
      by_cases hz : Gv.sumW ws / 8 > (s.size : Int)
      · rw [if_pos hz]
        refine Ev.step (f := fun _ => some (([] : List Int), (⟨#[]⟩ : ByteArray), 1)) (fun k => ?_) (Ev.now _)
        simp only [carouselref01_Split.l0]
        rw [if_neg (by omega), e2, if_pos h8, e1, if_pos hz]
      · rw [if_neg hz]
        obtain ⟨m, hm⟩ := Int.eq_ofNat_of_zero_le (show 0 ≤ Gv.sumW ws / 8 by omega)
        have hfl := firstB_length s m (by omega)
        have h2 := ev_rparts s hs ws (firstB s m) (firstB_bits s m) hl hok h8 (by omega) (by rw [hfl]; omega) _ 0 rfl (by omega)
        have hv : Gv.vals (firstB s m) ws = Gv.vals (Gv.sBits s) ws := by rw [firstB_take]; exact vals_take ws hok _ _ (by omega)
        rw [hv] at h2
        have h := ev_rbytes s hs ws (Gv.sumW ws) m (by rw [e1, hm]) (by omega) _ h2 _ 0 rfl (by omega)
        refine Ev.step (fun k => ?_) h
        simp only [carouselref01_Split.l0]
        rw [if_neg (by omega), e2, if_pos h8, e1, if_neg hz]
        rfl
    · rw [if_neg h8]
      refine Ev.step (f := fun _ => some (([] : List Int), (⟨#[]⟩ : ByteArray), 3)) (fun k => ?_) (Ev.now _)
      simp only [carouselref01_Split.l0]
      rw [if_neg (by omega), e2, if_neg h8]
  | succ d ih =>
    intro i hi hi2 hok
    have hil : i < ws.length := by omega
    have hb := sum_bound _ hok
    have hlt : ((ws.take i).length : Int) ≤ i := by have := List.length_take_le i ws; omega
    by_cases hm : 1 ≤ ws[i] ∧ ws[i] ≤ 64
    · have hokn : Gv.okW (ws.take (i + 1)) = true := by
        rw [sw_take hil]; simp only [Gv.okW, List.all_append, Bool.and_eq_true]
        exact ⟨hok, by simp [hm.1, hm.2]⟩
      have h := ih (i + 1) (by omega) (by omega) hokn
      rw [sw_take hil, sum_snoc] at h
      refine Ev.step (fun k => ?_) h
      simp only [carouselref01_Split.l0]
      rw [if_pos (by omega), if_pos (by omega), sw_rd hil, if_neg (by omega), if_neg (by omega), sw_wrap (by omega) (by omega), sw_wrap (by omega) (by omega)]
      rfl
    · have hbad : ¬ Gv.okW ws = true := fun h => hm (okW_get h hil)
      unfold Gv.split
      rw [if_neg hbad]
      refine Ev.step (f := fun _ => some (([] : List Int), (⟨#[]⟩ : ByteArray), 4)) (fun k => ?_) (Ev.now _)
      simp only [carouselref01_Split.l0]
      rw [if_pos (by omega), if_pos (by omega), sw_rd hil]
      by_cases h1 : ws[i] < 1
      · rw [if_pos h1]
      · rw [if_neg h1, if_pos (by omega)]

/-- The document's Split. -/
theorem ev_refsplit (s : ByteArray) (hs : s.size ≤ 100000) (ws : List Int) (hl : ws.length ≤ 1000) : Ev (fun k => carouselref01_Split.f k s ws) (Gv.split s ws) :=
  ev_rsplit_loop s hs ws hl _ 0 rfl (by omega) (by simp [Gv.okW])

end Go.Proofs.Ytmdaaphjndjakaf.LRapsOpens

/- Get of layer 1, the document's: a number of so many bytes, from a place on. -/
namespace Go.Proofs.Ytmdaaphjndjakaf.LRapsOpens
open Go.RowKit Go.Proofs.Ytmdaaphjndjakaf.PRapsOpens Go.Proofs.YtmdaaphjndjakafW.PrintWords Go.Proofs.YtmdaaphjndjakafW.PrintLast Go.Proofs.YtmdaaphjndjakafW.PrintMore Go.Proofs.Ytmdaaphjndjakaf
set_option linter.unusedVariables false
set_option linter.unusedSimpArgs false

theorem ev_getn (s : ByteArray) (hs : s.size ≤ 100000) (a n : Nat) (h1 : 1 ≤ n) (h8 : n ≤ 8) (h : a + n ≤ s.size) : Ev (fun k => carouselref01_Get.f k s (a : Int) (n : Int)) (Gv.numOf s a n) := by
  have hz : (s.extract a s.size).size = s.size - a := by
    rw [Gv.size_bytesOf, Gv.bytesOf_extract, List.length_drop, List.length_take, bytesOf_length]; omega
  have h2 := ev_refsplit (s.extract a s.size) (by omega) [((8 * n : Nat) : Int)] (by simp)
  rw [Gv.split_one _ n h1 h8 (by omega), Gv.sBits_extract] at h2
  refine Ev.congr (fun k => ?_) (Ev.bind h2 (f := fun k b => if 0 < (b.1.length : Int) then (some (rd b.1 0)) else (none)) (Ev.congr (fun k => ?_) (Ev.now _)))
  · unfold carouselref01_Get.f
    rw [if_pos (by omega), if_pos (by omega), Int.toNat_natCast, show wrap64 (8 * (n : Int)) = ((8 * n : Nat) : Int) from by unfold wrap64; omega]
  · simp only []
    rw [if_pos (by simp)]; rfl

end Go.Proofs.Ytmdaaphjndjakaf.LRapsOpens

/- Is of layer 4, the document's: it comes to the same plain word. -/
namespace Go.Proofs.Ytmdaaphjndjakaf.LRapsOpens
open Go.RowKit Go.Proofs.Ytmdaaphjndjakaf.PRapsOpens Go.Proofs.YtmdaaphjndjakafW.PrintWords Go.Proofs.YtmdaaphjndjakafW.PrintLast Go.Proofs.YtmdaaphjndjakafW.PrintMore Go.Proofs.Ytmdaaphjndjakaf
set_option linter.unusedVariables false
set_option linter.unusedSimpArgs false

theorem is_ref (a b c d e l v o f : Int) : carouselref04_Is.f a b c d e l v o f = some (oamIs a b c e l v o f) := by
  unfold carouselref04_Is.f oamIs
  repeat' split
  all_goals first | rfl | (exfalso; omega)

end Go.Proofs.Ytmdaaphjndjakaf.LRapsOpens

/- Layer 5, the document's Open: it comes to the same plain word. -/
namespace Go.Proofs.Ytmdaaphjndjakaf.LRapsOpens
open Go.RowKit Go.Proofs.Ytmdaaphjndjakaf.PRapsOpens Go.Proofs.YtmdaaphjndjakafW.PrintWords Go.Proofs.YtmdaaphjndjakafW.PrintLast Go.Proofs.YtmdaaphjndjakafW.PrintMore Go.Proofs.Ytmdaaphjndjakaf
set_option linter.unusedVariables false
set_option linter.unusedSimpArgs false

theorem rro_bad (c : ByteArray) : Ev (fun k => carouselref05_Open.j0 k c true) (Gv.rapsNone 3) := by
  refine Ev.step (f := fun k => carouselref05_Open.j0 (k + 1) c true) (fun k => rfl) ?_
  simp only [carouselref05_Open.j0, if_true]
  exact Ev.now _
theorem rro_go (c : ByteArray) (hc : c.size = 32) : Ev (fun k => carouselref05_Open.j0 k c false)
    (if Gv.rapsWrong (bt c 0 / 16) (bt c 1 / 128 == 1) (Gv.numOf c 2 6) = 0
      then (bt c 0 / 16, bt c 1 / 128 == 1, bt c 1 / 64 % 2 == 1, bt c 1 / 32 % 2 == 1, Gv.numOf c 2 6, 0)
      else Gv.rapsNone (Gv.rapsWrong (bt c 0 / 16) (bt c 1 / 128 == 1) (Gv.numOf c 2 6))) := by
  have b0 := bt_range c 0; have b1 := bt_range c 1
  have q2 := Gv.numOf_range c 2 6 (by omega)
  have g := ev_getn c (by omega) 2 6 (by decide) (by decide) (by omega)
  have d0 : Int.tdiv (bt c 0) 16 % 256 = bt c 0 / 16 := by rw [Int.tdiv_eq_ediv_of_nonneg b0.1]; omega
  have d1 : decide (bt c 1 ≥ 128) = (bt c 1 / 128 == 1) := by
    by_cases h : bt c 1 ≥ 128
    · rw [decide_eq_true h]; symm; rw [beq_iff_eq]; omega
    · rw [decide_eq_false h]; symm; rw [beq_eq_false_iff_ne]; omega
  have d2 : Int.tmod (IntKind.u8.wrap (Int.tdiv (bt c 1) 64)) 2 = bt c 1 / 64 % 2 := by
    show Int.tmod (Int.tdiv (bt c 1) 64 % 256) 2 = _
    rw [Int.tdiv_eq_ediv_of_nonneg b1.1, Int.tmod_eq_emod_of_nonneg (by omega)]; omega
  have d3 : Int.tmod (IntKind.u8.wrap (Int.tdiv (bt c 1) 32)) 2 = bt c 1 / 32 % 2 := by
    show Int.tmod (Int.tdiv (bt c 1) 32 % 256) 2 = _
    rw [Int.tdiv_eq_ediv_of_nonneg b1.1, Int.tmod_eq_emod_of_nonneg (by omega)]; omega
  have hw := ev_rfwrong (bt c 0 / 16) (bt c 1 / 128 == 1) (bt c 1 / 64 % 2 == 1) (bt c 1 / 32 % 2 == 1) (Gv.numOf c 2 6) q2.1
  refine Ev.step (f := fun k => carouselref05_Open.j0 (k + 1) c false) (fun k => rfl) ?_
  simp only [carouselref05_Open.j0, Bool.false_eq_true, if_false, d0, d1, d2, d3, if_pos (show (0 : Int) < (c.size : Int) from by omega), if_pos (show (1 : Int) < (c.size : Int) from by omega)]
  refine Ev.bind g ?_
  refine Ev.bind hw ?_
  by_cases hz : Gv.rapsWrong (bt c 0 / 16) (bt c 1 / 128 == 1) (Gv.numOf c 2 6) = 0
  · simp only [if_pos hz]; exact Ev.now _
  · simp only [if_neg hz]; exact Ev.now _
theorem ev_rropen (s : ByteArray) (hs : s.size ≤ 100000) (lv : Int) : Ev (fun k => carouselref05_Open.f k s lv) (rapsOpen s lv) := by
  have ho := ev_ref_open s hs
  have hf := oam_facts s
  unfold rapsOpen
  generalize oamOpen s = h at *
  obtain ⟨l, v, c, f, o, b, e⟩ := h
  unfold rapsOf
  simp only [carouselref05_Open.f]
  refine Ev.bind ho ?_
  by_cases he : e = 0
  · have hf := hf he
    simp only [if_pos he, is_ref, Option.bind_some]
    by_cases hi : oamIs l v c o lv 1 40 32 = 0
    · have hi2 := is_facts hi
      have hb : b.size = 32 := by have := hf.1; simp only at this; omega
      have b0 := bt_range b 0; have b1 := bt_range b 1
      simp only [if_pos hi, if_pos (show (0 : Int) < (b.size : Int) from by omega), if_pos (show (1 : Int) < (b.size : Int) from by omega), if_pos (show (8 : Int) ≤ (b.size : Int) from by omega), if_pos (show (24 : Nat) ≤ 281474976710656 from by decide), Int.tmod_eq_emod_of_nonneg b0.1, Int.tmod_eq_emod_of_nonneg b1.1]
      unfold Gv.rapsRead
      by_cases h1 : f = 0
      · simp only [if_pos h1]
        by_cases h2 : bt b 0 % 16 = 0
        · simp only [if_pos h2]
          by_cases h3 : bt b 1 % 32 = 0
          · simp only [if_pos h3]
            by_cases h4 : b.extract 8 b.size = strOfNums (List.replicate 24 0)
            · rw [if_pos ⟨h1, h2, h3, h4⟩, show ((b.extract 8 b.size).toList != (strOfNums (List.replicate 24 0)).toList) = false from by rw [h4]; simp]
              exact rro_go b hb
            · rw [if_neg (fun h => h4 h.2.2.2), show ((b.extract 8 b.size).toList != (strOfNums (List.replicate 24 0)).toList) = true from by rw [bne_iff_ne]; exact fun h => h4 (Gv.str_list.1 h)]
              exact rro_bad b
          · simp only [if_neg h3]
            rw [if_neg (fun h => h3 h.2.2.1)]
            exact rro_bad b
        · simp only [if_neg h2]
          rw [if_neg (fun h => h2 h.2.1)]
          exact rro_bad b
      · simp only [if_neg h1]
        rw [if_neg (fun h => h1 h.1)]
        exact rro_bad b
    · simp only [if_neg hi]
      exact Ev.now _
  · simp only [if_neg he]
    exact Ev.now _

end Go.Proofs.Ytmdaaphjndjakaf.LRapsOpens

namespace Go.Proofs.Ytmdaaphjndjakaf.Pure
open Go.RowKit Go.Proofs.Ytmdaaphjndjakaf.PRapsOpens Go.Proofs.YtmdaaphjndjakafW.PrintWords Go.Proofs.YtmdaaphjndjakafW.PrintLast Go.Proofs.YtmdaaphjndjakafW.PrintMore Go.Proofs.Ytmdaaphjndjakaf Go.Proofs.Ytmdaaphjndjakaf.LRapsOpens
set_option linter.unusedVariables false
set_option linter.unusedSimpArgs false

theorem rp_awake : Ev (fun k => carousellaw05_Awake.f k) true :=
  Ev.of carousellaw05_Awake.mono (k := 60) (by decide +kernel)

theorem RapsOpens : carousellaw05_RapsOpens.Pure := by
  intro s lv _ _
  have hgo : Ev (fun k => carousellaw05_RapsOpens.f k s lv) true := by
    simp only [carousellaw05_RapsOpens.f]
    by_cases hz : (s.size : Int) > 600
    · simp only [if_pos hz]
      exact Ev.bind rp_awake (f := fun _ x => some x) (Ev.now _)
    · simp only [if_neg hz]
      refine Ev.bind (ev_ropen s (by omega) lv) ?_
      refine Ev.bind (ev_rropen s (by omega) lv) ?_
      refine Ev.bind rp_awake ?_
      refine Ev.congr (fun k => ?_) (Ev.now true)
      simp only [carousellaw05_Of.f, Option.bind_some, if_true]
      simp
  exact hgo.rounds

end Go.Proofs.Ytmdaaphjndjakaf.Pure
