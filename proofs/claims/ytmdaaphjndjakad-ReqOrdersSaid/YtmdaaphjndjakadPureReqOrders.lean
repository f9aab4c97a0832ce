/- The law ReqOrders holds: of two requests that aren't one just one is above the other; what is above a higher one is above a lesser one; the best of requests is one of them, and none is above it: for every input. -/
import Derived.Test.YtmdaaphjndjakadGvField
import Derived.Test.YtmdaaphjndjakadWMore
import Derived.Test.YtmdaaphjndjakadPReqOrdersx1
import Derived.Test.YtmdaaphjndjakadPReqOrdersx4
import Derived.Test.YtmdaaphjndjakadPReqOrdersx5
-- merged out of the texts of this work that it leads to

/- Plain words on bits: the values of parts of a string's bits; how bits of numbers fall apart and go together. No program in sight. -/
namespace Go.Proofs.Ytmdaaphjndjakad.Gv
open Go.RowKit Go.Proofs.YtmdaaphjndjakadW.PrintWords
set_option linter.unusedVariables false

/-- The number of bits, the highest first. -/
def valOf (l : List Int) : Int := l.foldl (fun v b => v * 2 + b) 0
/-- All bits of a string. -/
def sBits (s : ByteArray) : List Int := (bytesOf s).flatMap fun b => bitsOf 8 b
def sumW (ws : List Int) : Int := ws.foldl (· + ·) 0
def okW (ws : List Int) : Bool := ws.all fun w => decide (1 ≤ w) && decide (w ≤ 64)
/-- The values of parts of such widths. -/
def vals : List Int → List Int → List Int
  | _, [] => []
  | bits, w :: ws => valOf (bits.take w.toNat) :: vals (bits.drop w.toNat) ws
/-- What Split comes to. -/
def split (s : ByteArray) (ws : List Int) : List Int × ByteArray × Int :=
  if okW ws = true then
    if sumW ws % 8 = 0 then
      if sumW ws / 8 > (s.size : Int) then ([], ⟨#[]⟩, 1) else (vals (sBits s) ws, s.extract (sumW ws / 8).toNat s.size, 0)
    else ([], ⟨#[]⟩, 3)
  else ([], ⟨#[]⟩, 4)

theorem foldl_val (l : List Int) (a : Int) : l.foldl (fun v b => v * 2 + b) a = a * 2 ^ l.length + valOf l := by
  induction l generalizing a with
  | nil => simp [valOf]
  | cons b l ih =>
    have e : valOf (b :: l) = b * 2 ^ l.length + valOf l := by
      show l.foldl (fun v b => v * 2 + b) (0 * 2 + b) = _
      rw [ih]; simp
    rw [List.foldl_cons, ih, e, List.length_cons, Int.pow_succ, Int.add_mul, Int.mul_assoc, Int.mul_comm 2 (2 ^ l.length), Int.add_assoc]
/-- From behind. -/
theorem rev_ind {P : List Int → Prop} (h0 : P []) (h1 : ∀ l b, P l → P (l ++ [b])) (l : List Int) : P l := by
  have key : ∀ n : Nat, ∀ l : List Int, l.length = n → P l := by
    intro n
    induction n with
    | zero => intro l hl; rw [List.eq_nil_of_length_eq_zero hl]; exact h0
    | succ n ih =>
      intro l hl
      have hne : l ≠ [] := fun e => by rw [e] at hl; simp at hl
      rw [← List.dropLast_concat_getLast hne]
      exact h1 _ _ (ih _ (by simp [hl]))
  exact key _ l rfl
theorem valOf_nil : valOf [] = 0 := rfl
theorem valOf_append (l m : List Int) : valOf (l ++ m) = valOf l * 2 ^ m.length + valOf m := by
  unfold valOf
  rw [List.foldl_append, foldl_val]
  rfl
theorem valOf_snoc (l : List Int) (b : Int) : valOf (l ++ [b]) = valOf l * 2 + b := by unfold valOf; rw [List.foldl_append]; rfl
theorem valOf_range {l : List Int} : IsBits l → 0 ≤ valOf l ∧ valOf l < 2 ^ l.length := by
  refine rev_ind (P := fun l => IsBits l → 0 ≤ valOf l ∧ valOf l < 2 ^ l.length) (fun _ => by simp [valOf]) (fun l b ih h => ?_) l
  have h1 := ih (fun x hx => h x (by simp [hx]))
  have h2 := h b (by simp)
  rw [valOf_snoc, List.length_append, List.length_singleton, Int.pow_succ]
  omega
theorem bitsOf_succ (n : Nat) (v : Int) : bitsOf (n + 1) v = bitsOf n (v / 2) ++ [v % 2] := by
  simp only [bitsOf]
  rw [List.range_succ, List.map_append]
  congr 1
  · apply List.map_congr_left
    intro i hi
    simp only [List.mem_range] at hi
    rw [show n + 1 - 1 - i = (n - 1 - i) + 1 from by omega, Int.pow_succ, Int.mul_comm, ← Int.ediv_ediv_of_nonneg (by decide)]
  · simp
theorem bitsOf_zero (v : Int) : bitsOf 0 v = [] := rfl
theorem bitsOf_add (m n : Nat) (v : Int) : bitsOf (m + n) v = bitsOf m (v / 2 ^ n) ++ bitsOf n v := by
  induction n generalizing v with
  | zero => simp [bitsOf_zero]
  | succ n ih =>
    rw [← Nat.add_assoc, bitsOf_succ, ih, bitsOf_succ n, List.append_assoc, Int.ediv_ediv_of_nonneg (by decide), Int.pow_succ, Int.mul_comm]
theorem valOf_bitsOf (n : Nat) (v : Int) : valOf (bitsOf n v) = v % 2 ^ n := by
  induction n generalizing v with
  | zero => simp [bitsOf_zero, valOf_nil]
  | succ n ih =>
    rw [bitsOf_succ, valOf_snoc, ih, Int.pow_succ]
    have hp : (0 : Int) < 2 ^ n := Int.pow_pos (by decide)
    generalize (2 : Int) ^ n = q at *
    have h3 : v / (q * 2) = v / 2 / q := by rw [Int.mul_comm, Int.ediv_ediv_of_nonneg (by decide)]
    rw [Int.emod_def v (q * 2), Int.emod_def (v / 2) q, h3, Int.mul_comm q 2, Int.mul_assoc 2 q]
    generalize q * (v / 2 / q) = z
    omega
/-- A number's bits and back: the bits of what bits tell. -/
theorem bitsOf_valOf {l : List Int} : IsBits l → bitsOf l.length (valOf l) = l := by
  refine rev_ind (P := fun l => IsBits l → bitsOf l.length (valOf l) = l) (fun _ => rfl) (fun l b ih h => ?_) l
  have h1 := ih (fun x hx => h x (by simp [hx]))
  have h2 := h b (by simp)
  rw [List.length_append, List.length_singleton, bitsOf_succ, valOf_snoc]
  have e1 : (valOf l * 2 + b) / 2 = valOf l := by omega
  have e2 : (valOf l * 2 + b) % 2 = b := by omega
  rw [e1, e2, h1]
/-- Only the low bits count. -/
theorem bitsOf_mod (n : Nat) (v : Int) : bitsOf n (v % 2 ^ n) = bitsOf n v := by
  have := bitsOf_valOf (bitsOf_bits n v)
  rwa [bitsOf_length, valOf_bitsOf] at this
theorem byteVal_bits (b : Int) (l : List Int) : byteVal (bitsOf 8 b ++ l) = b % 256 := by
  have h := valOf_bitsOf 8 b
  have e : (2 : Int) ^ 8 = 256 := by decide
  rw [e] at h
  rw [← h]
  simp only [bitsOf, byteVal, valOf, List.range, List.range.loop, List.map, List.foldl, List.cons_append, List.getD_cons_zero, List.getD_cons_succ]
  omega
theorem packB_nil : packB [] = [] := rfl
theorem packB_byte (b : Int) (l : List Int) : packB (bitsOf 8 b ++ l) = b % 256 :: packB l := by
  have hl : (bitsOf 8 b ++ l).length = l.length + 8 := by rw [List.length_append, bitsOf_length]; omega
  unfold packB
  rw [hl, show (l.length + 8 + 7) / 8 = (l.length + 7) / 8 + 1 from by omega, List.range_succ_eq_map, List.map_cons, List.map_map]
  rw [Nat.mul_zero, List.drop_zero, byteVal_bits]
  refine congrArg (b % 256 :: ·) (List.map_congr_left fun j _ => ?_)
  show byteVal ((bitsOf 8 b ++ l).drop (8 * (j + 1))) = byteVal (l.drop (8 * j))
  rw [List.drop_append, bitsOf_length, List.drop_of_length_le (by rw [bitsOf_length]; omega), List.nil_append, show 8 * (j + 1) - 8 = 8 * j from by omega]
/-- Whole bytes: the bytes of a number's bits. -/
theorem packB_bytes (l : List Int) (hb : ∀ b ∈ l, 0 ≤ b ∧ b ≤ 255) (m : List Int) : packB ((l.flatMap fun b => bitsOf 8 b) ++ m) = l ++ packB m := by
  induction l with
  | nil => rfl
  | cons b l ih =>
    have h := hb b (by simp)
    rw [List.flatMap_cons, List.append_assoc, packB_byte, ih (fun x hx => hb x (by simp [hx]))]
    rw [List.cons_append, Int.emod_eq_of_lt h.1 (by omega)]
theorem bytesOf_range (s : ByteArray) : ∀ b ∈ bytesOf s, 0 ≤ b ∧ b ≤ 255 := by
  intro b hb
  simp only [bytesOf, List.mem_map] at hb
  obtain ⟨u, _, rfl⟩ := hb
  have := u.toNat_lt
  omega
theorem sBits_length (s : ByteArray) : (sBits s).length = 8 * s.size := by
  unfold sBits
  have : ∀ l : List Int, (l.flatMap fun b => bitsOf 8 b).length = 8 * l.length := by
    intro l
    induction l with
    | nil => rfl
    | cons b l ih => rw [List.flatMap_cons, List.length_append, ih, bitsOf_length, List.length_cons]; omega
  rw [this, bytesOf_length]
theorem sBits_bits (s : ByteArray) : IsBits (sBits s) := by
  intro b hb
  simp only [sBits, List.mem_flatMap] at hb
  obtain ⟨p, _, hb⟩ := hb
  exact bitsOf_bits _ _ b hb
theorem strOfNums_bytesOf (s : ByteArray) : strOfNums (bytesOf s) = s := by
  unfold strOfNums bytesOf
  apply ByteArray.ext
  simp [Function.comp_def]
theorem packB_sBits (s : ByteArray) : packB (sBits s) = bytesOf s := by
  have := packB_bytes (bytesOf s) (bytesOf_range s) []
  rw [List.append_nil, packB_nil, List.append_nil] at this
  exact this

end Go.Proofs.Ytmdaaphjndjakad.Gv

/- Plain words of layer 12: requests, one above the other, the best. No program in sight. -/
namespace Go.Proofs.Ytmdaaphjndjakad.Gv
open Go.RowKit Go.Proofs.YtmdaaphjndjakadW.PrintWords
set_option linter.unusedVariables false

def rqMay (k : Int) : Bool := decide (0 ≤ k ∧ k ≤ 13)
def rqAbove (k l : Int) : Bool := rqMay k && (!rqMay l || decide (k < l))
def bestOf (l : List Int) : Int := l.foldl (fun b k => if rqAbove k b = true then k else b) 14
theorem above_iff (k l : Int) : rqAbove k l = true ↔ (0 ≤ k ∧ k ≤ 13) ∧ (¬ (0 ≤ l ∧ l ≤ 13) ∨ k < l) := by
  simp only [rqAbove, rqMay, Bool.and_eq_true, Bool.or_eq_true, Bool.not_eq_true', decide_eq_true_eq, decide_eq_false_iff_not]
theorem best_snoc (l : List Int) (b : Int) : bestOf (l ++ [b]) = if rqAbove b (bestOf l) = true then b else bestOf l := by
  unfold bestOf; rw [List.foldl_append]; rfl
theorem best_spec (l : List Int) : (bestOf l = 14 ∧ ∀ x ∈ l, ¬ (0 ≤ x ∧ x ≤ 13)) ∨ (bestOf l ∈ l ∧ 0 ≤ bestOf l ∧ bestOf l ≤ 13 ∧ ∀ x ∈ l, 0 ≤ x → x ≤ 13 → bestOf l ≤ x) := by
  refine rev_ind (P := fun l => (bestOf l = 14 ∧ ∀ x ∈ l, ¬ (0 ≤ x ∧ x ≤ 13)) ∨ (bestOf l ∈ l ∧ 0 ≤ bestOf l ∧ bestOf l ≤ 13 ∧ ∀ x ∈ l, 0 ≤ x → x ≤ 13 → bestOf l ≤ x)) (.inl ⟨rfl, by simp⟩) (fun l b ih => ?_) l
  rw [best_snoc]
  have ha := above_iff b (bestOf l)
  by_cases h : rqAbove b (bestOf l) = true
  · rw [if_pos h]
    have hb := ha.1 h
    refine .inr ⟨by simp, hb.1.1, hb.1.2, fun x hx h0 h1 => ?_⟩
    rcases List.mem_append.1 hx with hx | hx
    · rcases ih with ih | ih
      · exact absurd ⟨h0, h1⟩ (ih.2 x hx)
      · have := ih.2.2.2 x hx h0 h1
        rcases hb.2 with h2 | h2 <;> omega
    · simp at hx; omega
  · rw [if_neg h]
    have hn : ¬ ((0 ≤ b ∧ b ≤ 13) ∧ (¬ (0 ≤ bestOf l ∧ bestOf l ≤ 13) ∨ b < bestOf l)) := fun h2 => h (ha.2 h2)
    rcases ih with ih | ih
    · refine .inl ⟨ih.1, fun x hx => ?_⟩
      rcases List.mem_append.1 hx with hx | hx
      · exact ih.2 x hx
      · simp at hx
        rw [ih.1] at hn
        omega
    · refine .inr ⟨by simp [ih.1], ih.2.1, ih.2.2.1, fun x hx h0 h1 => ?_⟩
      rcases List.mem_append.1 hx with hx | hx
      · exact ih.2.2.2 x hx h0 h1
      · simp at hx
        omega

end Go.Proofs.Ytmdaaphjndjakad.Gv

/- Layer 12: one above the other, the best, the program's: plain words. -/
namespace Go.Proofs.Ytmdaaphjndjakad.LReqOrders
open Go.RowKit Go.Proofs.Ytmdaaphjndjakad.PReqOrders Go.Proofs.YtmdaaphjndjakadW.PrintWords Go.Proofs.YtmdaaphjndjakadW.PrintLast Go.Proofs.YtmdaaphjndjakadW.PrintMore Go.Proofs.Ytmdaaphjndjakad
set_option linter.unusedVariables false
set_option linter.unusedSimpArgs false

theorem rq_wrap {n : Int} (h0 : -9223372036854775808 ≤ n) (h1 : n ≤ 9223372036854775807) : wrap64 n = n := by unfold wrap64; omega
theorem rq_may (a : Int) : req_Kind_May.f a = some (Gv.rqMay a) := by
  unfold req_Kind_May.f Gv.rqMay
  by_cases h : a ≥ 0
  · rw [if_pos h]
    have : (0 ≤ a ∧ a ≤ 13) = (a ≤ 13) := by apply propext; omega
    simp [this]
  · rw [if_neg h, decide_eq_false (by omega)]
theorem rq_above (a b : Int) : req_Kind_Above.f a b = some (Gv.rqAbove a b) := by
  unfold req_Kind_Above.f Gv.rqAbove
  simp only [rq_may, Option.bind_some]
  cases Gv.rqMay a <;> cases Gv.rqMay b <;> simp
theorem best_loop (l : List Int) (hl : l.length ≤ 1000) (d : Nat) : ∀ i : Nat, l.length - i = d → i ≤ l.length → Ev (fun k => req_Best.l0 k (Gv.bestOf (l.take i)) l (l.length : Int) (i : Int)) (Gv.bestOf l) := by
  induction d with
  | zero =>
    intro i hi hi2
    rw [List.take_of_length_le (by omega)]
    refine Ev.step (f := fun k => req_Best.l0 (k + 1) (Gv.bestOf l) l (l.length : Int) (i : Int)) (fun k => rfl) ?_
    simp only [req_Best.l0, if_neg (show ¬ (i : Int) < (l.length : Int) from by omega)]
    exact Ev.now _
  | succ d ih =>
    intro i hi hi2
    have hil : i < l.length := by omega
    have h := ih (i + 1) (by omega) (by omega)
    have hr : rd l (i : Int) = l[i] := by unfold rd; simp [List.getD_eq_getElem?_getD, hil]
    rw [List.take_succ_eq_append_getElem hil, Gv.best_snoc] at h
    refine Ev.step (f := fun k => req_Best.l0 (k + 1) (Gv.bestOf (l.take i)) l (l.length : Int) (i : Int)) (fun k => rfl) ?_
    simp only [req_Best.l0, if_pos (show (i : Int) < (l.length : Int) from by omega), if_pos (show (0 : Int) ≤ (i : Int) from by omega), hr, rq_above, Option.bind_some, rq_wrap (n := (i : Int) + 1) (by omega) (by omega)]
    by_cases ha : Gv.rqAbove l[i] (Gv.bestOf (l.take i)) = true
    · rw [if_pos ha] at h
      simp only [if_pos ha]
      exact h
    · rw [if_neg ha] at h
      simp only [if_neg ha]
      exact h
theorem ev_best (l : List Int) (hl : l.length ≤ 1000) : Ev (fun k => req_Best.f k l) (Gv.bestOf l) := best_loop l hl _ 0 rfl (by omega)

end Go.Proofs.Ytmdaaphjndjakad.LReqOrders

namespace Go.Proofs.Ytmdaaphjndjakad.Pure
open Go.RowKit Go.Proofs.Ytmdaaphjndjakad.PReqOrders Go.Proofs.YtmdaaphjndjakadW.PrintWords Go.Proofs.YtmdaaphjndjakadW.PrintLast Go.Proofs.YtmdaaphjndjakadW.PrintMore Go.Proofs.Ytmdaaphjndjakad Go.Proofs.Ytmdaaphjndjakad.LReqOrders
set_option linter.unusedVariables false
set_option linter.unusedSimpArgs false

theorem qo_awake : Ev (fun k => carousellaw12_Awake.f k) true :=
  Ev.of carousellaw12_Awake.mono (k := 60) (by decide +kernel)
theorem qo_u8 {a : Int} (h : (Lit.int .u8 a).wf = true) : 0 ≤ a ∧ a ≤ 255 := by
  have h' : IntKind.u8.min ≤ a ∧ a ≤ IntKind.u8.max := by simpa [Lit.wf] using h
  exact h'
theorem qo_mod (a : Int) (h : 0 ≤ a ∧ a ≤ 255) : wrap64 (Int.tmod a 14) = a % 14 := by
  rw [Int.tmod_eq_emod_of_nonneg h.1, rq_wrap (by omega) (by omega)]
theorem in_above (x y : Int) (hx : 0 ≤ x ∧ x ≤ 13) (hy : 0 ≤ y ∧ y ≤ 13) : Gv.rqAbove x y = decide (x < y) := by
  by_cases h : x < y
  · rw [decide_eq_true h]; exact (Gv.above_iff x y).2 ⟨hx, .inr h⟩
  · rw [decide_eq_false h]
    cases hq : Gv.rqAbove x y with
    | false => rfl
    | true => have := (Gv.above_iff x y).1 hq; omega
theorem above_14 (x : Int) (hx : 0 ≤ x ∧ x ≤ 13) : Gv.rqAbove x 14 = true := (Gv.above_iff x 14).2 ⟨hx, .inl (by omega)⟩
theorem no_14 (x : Int) : Gv.rqAbove 14 x = false := by
  cases hq : Gv.rqAbove 14 x with
  | false => rfl
  | true => have := (Gv.above_iff 14 x).1 hq; omega

theorem qo_l1 (l : List Int) (hl : l.length ≤ 60) (b : Int) (hb : ∀ x ∈ l, Gv.rqAbove x b = false) (d : Nat) : ∀ (i : Nat) (met : Bool), l.length - i = d → i ≤ l.length → (met = true ∨ ∃ j, ∃ h : j < l.length, i ≤ j ∧ l[j] = b) → Ev (fun k => carousellaw12_ReqOrders.l1 k b met l (l.length : Int) (i : Int)) true := by
  induction d with
  | zero =>
    intro i met hi hi2 hm
    have hmt : met = true := by
      rcases hm with hm | ⟨j, hj, h1, h2⟩
      · exact hm
      · omega
    subst hmt
    refine Ev.step (f := fun k => carousellaw12_ReqOrders.l1 (k + 1) b true l (l.length : Int) (i : Int)) (fun k => rfl) ?_
    simp only [carousellaw12_ReqOrders.l1, if_neg (show ¬ (i : Int) < (l.length : Int) from by omega)]
    refine Ev.bind qo_awake ?_
    simp only [if_true]
    exact Ev.now _
  | succ d ih =>
    intro i met hi hi2 hm
    have hil : i < l.length := by omega
    have hr : rd l (i : Int) = l[i] := by unfold rd; simp [List.getD_eq_getElem?_getD, hil]
    refine Ev.step (f := fun k => carousellaw12_ReqOrders.l1 (k + 1) b met l (l.length : Int) (i : Int)) (fun k => rfl) ?_
    simp only [carousellaw12_ReqOrders.l1, if_pos (show (i : Int) < (l.length : Int) from by omega), if_pos (show (0 : Int) ≤ (i : Int) from by omega), hr, rq_above, hb _ (List.getElem_mem hil), Option.bind_some, Bool.false_eq_true, if_false, rq_wrap (n := (i : Int) + 1) (by omega) (by omega)]
    cases met with
    | true =>
      simp only [if_true]
      exact ih (i + 1) true (by omega) (by omega) (.inl rfl)
    | false =>
      simp only [Bool.false_eq_true, if_false]
      refine ih (i + 1) (l[i] == b) (by omega) (by omega) ?_
      by_cases he : l[i] = b
      · exact .inl (by simpa using he)
      · rcases hm with hm | ⟨j, hj, h1, h2⟩
        · cases hm
        · refine .inr ⟨j, hj, ?_, h2⟩
          by_cases e : j = i
          · subst e; exact absurd h2 he
          · omega
theorem best_ok (l : List Int) (hne : l ≠ []) (hr : ∀ x ∈ l, 0 ≤ x ∧ x ≤ 13) : Gv.bestOf l ∈ l ∧ ∀ x ∈ l, Gv.rqAbove x (Gv.bestOf l) = false := by
  rcases Gv.best_spec l with h | h
  · cases l with
    | nil => exact absurd rfl hne
    | cons a l => exact absurd (hr a (by simp)) (h.2 a (by simp))
  · refine ⟨h.1, fun x hx => ?_⟩
    have hx2 := hr x hx
    rw [in_above x _ hx2 ⟨h.2.1, h.2.2.1⟩]
    have := h.2.2.2 x hx hx2.1 hx2.2
    exact decide_eq_false (by omega)
theorem qo_l0 (l : List Int) (hl : l.length ≤ 60) (hne : l ≠ []) (h8 : ∀ x ∈ l, 0 ≤ x ∧ x ≤ 255) (d : Nat) : ∀ i : Nat, l.length - i = d → i ≤ l.length → Ev (fun k => carousellaw12_ReqOrders.l0 k ((l.take i).map (· % 14)) l (l.length : Int) (i : Int)) true := by
  induction d with
  | zero =>
    intro i hi hi2
    rw [List.take_of_length_le (by omega)]
    have hm : ∀ x ∈ l.map (· % 14), 0 ≤ x ∧ x ≤ 13 := by
      intro x hx
      obtain ⟨y, _, rfl⟩ := List.mem_map.1 hx
      omega
    have hb := best_ok (l.map (· % 14)) (by simpa using hne) hm
    refine Ev.step (f := fun k => carousellaw12_ReqOrders.l0 (k + 1) (l.map (· % 14)) l (l.length : Int) (i : Int)) (fun k => rfl) ?_
    simp only [carousellaw12_ReqOrders.l0, if_neg (show ¬ (i : Int) < (l.length : Int) from by omega)]
    refine Ev.bind (ev_best (l.map (· % 14)) (by rw [List.length_map]; omega)) ?_
    obtain ⟨j, hj, hje⟩ := List.getElem_of_mem hb.1
    exact qo_l1 (l.map (· % 14)) (by rw [List.length_map]; omega) (Gv.bestOf (l.map (· % 14))) hb.2 _ 0 false rfl (by omega) (.inr ⟨j, hj, by omega, hje⟩)
  | succ d ih =>
    intro i hi hi2
    have hil : i < l.length := by omega
    have h := ih (i + 1) (by omega) (by omega)
    have hr : rd l (i : Int) = l[i] := by unfold rd; simp [List.getD_eq_getElem?_getD, hil]
    have h8i := h8 _ (List.getElem_mem hil)
    rw [List.take_succ_eq_append_getElem hil, List.map_append, List.map_cons, List.map_nil] at h
    refine Ev.step (f := fun k => carousellaw12_ReqOrders.l0 (k + 1) ((l.take i).map (· % 14)) l (l.length : Int) (i : Int)) (fun k => rfl) ?_
    simp only [carousellaw12_ReqOrders.l0, if_pos (show (i : Int) < (l.length : Int) from by omega), if_pos (show (0 : Int) ≤ (i : Int) from by omega), if_pos (show ((l.take i).map (· % 14)).length < 17592186044416 from by rw [List.length_map, List.length_take]; omega), hr, qo_mod _ h8i, rq_wrap (n := (i : Int) + 1) (by omega) (by omega)]
    exact h
theorem qo_j1t (l : List Int) : Ev (fun k => carousellaw12_ReqOrders.j1 k l true) true := by
  refine Ev.step (f := fun k => carousellaw12_ReqOrders.j1 (k + 1) l true) (fun k => rfl) ?_
  simp only [carousellaw12_ReqOrders.j1, if_true]
  refine Ev.bind qo_awake ?_
  simp only [if_true]
  refine Ev.bind (ev_best [] (by simp)) ?_
  exact Ev.congr (fun k => by rfl) (Ev.now true)
theorem qo_j1 (l : List Int) (hl : l.length ≤ 60) (hne : l ≠ []) (h8 : ∀ x ∈ l, 0 ≤ x ∧ x ≤ 255) : Ev (fun k => carousellaw12_ReqOrders.j1 k l false) true := by
  refine Ev.step (f := fun k => carousellaw12_ReqOrders.j1 (k + 1) l false) (fun k => rfl) ?_
  simp only [carousellaw12_ReqOrders.j1, Bool.false_eq_true, if_false]
  exact qo_l0 l hl hne h8 _ 0 rfl (by omega)
theorem qo_j0 (l : List Int) (h8 : ∀ x ∈ l, 0 ≤ x ∧ x ≤ 255) : Ev (fun k => carousellaw12_ReqOrders.j0 k l false) true := by
  refine Ev.step (f := fun k => carousellaw12_ReqOrders.j0 (k + 1) l false) (fun k => rfl) ?_
  simp only [carousellaw12_ReqOrders.j0, Bool.false_eq_true, if_false]
  by_cases h1 : l = []
  · simp only [if_pos (show (l.length : Int) = 0 from by rw [h1]; rfl)]
    exact qo_j1t l
  · have hp : 0 < l.length := List.length_pos_iff.2 h1
    simp only [if_neg (show ¬ (l.length : Int) = 0 from by omega)]
    by_cases h2 : (l.length : Int) > 60
    · rw [decide_eq_true h2]; exact qo_j1t l
    · rw [decide_eq_false h2]; exact qo_j1 l (by omega) h1 h8

theorem ReqOrders : carousellaw12_ReqOrders.Pure := by
  intro a b c l w0 w1 w2 _ _ w3
  have ha := qo_u8 w0; have hb := qo_u8 w1; have hc := qo_u8 w2
  have h8 : ∀ x ∈ l, 0 ≤ x ∧ x ≤ 255 := fun x hx => qo_u8 (w3 x hx)
  have hj := qo_j0 l h8
  have hgo : Ev (fun k => carousellaw12_ReqOrders.f k a b c l) true := by
    simp only [carousellaw12_ReqOrders.f, qo_mod a ha, qo_mod b hb, qo_mod c hc, rq_above, Option.bind_some]
    have hx : 0 ≤ a % 14 ∧ a % 14 ≤ 13 := by omega
    have hy : 0 ≤ b % 14 ∧ b % 14 ≤ 13 := by omega
    have hz : 0 ≤ c % 14 ∧ c % 14 ≤ 13 := by omega
    generalize a % 14 = x at *
    generalize b % 14 = y at *
    generalize c % 14 = z at *
    simp only [in_above x y hx hy, in_above y x hy hx, in_above y z hy hz, in_above x z hx hz, in_above x x hx hx, above_14 x hx, no_14, decide_eq_true_eq, Int.lt_irrefl, decide_false, Bool.false_eq_true, if_false, if_true]
    refine Ev.congr (fun k => ?_) hj
    by_cases h1 : x < y
    · have h2 : ¬ y < x := by omega
      have h3 : ¬ x = y := by omega
      by_cases h4 : y < z
      · have h5 : x < z := by omega
        simp [h1, h2, h3, h4, h5]
      · simp [h1, h2, h3, h4]
    · by_cases h3 : x = y
      · simp [h1, h3]
      · have h2 : y < x := by omega
        simp [h1, h2, h3]
  exact hgo.rounds

end Go.Proofs.Ytmdaaphjndjakad.Pure
