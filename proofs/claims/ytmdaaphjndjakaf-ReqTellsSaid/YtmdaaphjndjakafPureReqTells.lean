/- The law ReqTells holds: what any message tells, and the highest of any requests, are the document's: for every input. -/
import Derived.Test.YtmdaaphjndjakafGvField
import Derived.Test.YtmdaaphjndjakafWMore
import Derived.Test.YtmdaaphjndjakafPReqTellsx1
import Derived.Test.YtmdaaphjndjakafPReqTellsx5
-- merged out of the texts of this work that it leads to

/- Plain words on bits: the values of parts of a string's bits; how bits of numbers fall apart and go together. No program in sight. -/
namespace Go.Proofs.Ytmdaaphjndjakaf.Gv
open Go.RowKit Go.Proofs.YtmdaaphjndjakafW.PrintWords
set_option linter.unusedVariables false

/-- The number of bits, the highest first. -/
def valOf (l : List Int) : Int := l.foldl (fun v b => v * 2 + b) 0
/-- All bits of a string. -/
def sBits (s : ByteArray) : List Int := (bytesOf s).flatMap fun b => bitsOf 8 b
def sumW (ws : List Int) : Int := ws.foldl (· + ·) 0
def okW (ws : List Int) : Bool := ws.all fun w => decide (1 ≤ w) && decide (w ≤ 64)
/-- The values of parts of such widths. -/
def vals : List Int → List Int → List Int
  | _, [] => []
  | bits, w :: ws => valOf (bits.take w.toNat) :: vals (bits.drop w.toNat) ws
/-- What Split comes to. -/
def split (s : ByteArray) (ws : List Int) : List Int × ByteArray × Int :=
  if okW ws = true then
    if sumW ws % 8 = 0 then
      if sumW ws / 8 > (s.size : Int) then ([], ⟨#[]⟩, 1) else (vals (sBits s) ws, s.extract (sumW ws / 8).toNat s.size, 0)
    else ([], ⟨#[]⟩, 3)
  else ([], ⟨#[]⟩, 4)

theorem foldl_val (l : List Int) (a : Int) : l.foldl (fun v b => v * 2 + b) a = a * 2 ^ l.length + valOf l := by
  induction l generalizing a with
  | nil => simp [valOf]
  | cons b l ih =>
    have e : valOf (b :: l) = b * 2 ^ l.length + valOf l := by
      show l.foldl (fun v b => v * 2 + b) (0 * 2 + b) = _
      rw [ih]; simp
    rw [List.foldl_cons, ih, e, List.length_cons, Int.pow_succ, Int.add_mul, Int.mul_assoc, Int.mul_comm 2 (2 ^ l.length), Int.add_assoc]
/-- From behind. -/
theorem rev_ind {P : List Int → Prop} (h0 : P []) (h1 : ∀ l b, P l → P (l ++ [b])) (l : List Int) : P l := by
  have key : ∀ n : Nat, ∀ l : List Int, l.length = n → P l := by
    intro n
    induction n with
    | zero => intro l hl; rw [List.eq_nil_of_length_eq_zero hl]; exact h0
    | succ n ih =>
      intro l hl
      have hne : l ≠ [] := fun e => by rw [e] at hl; simp at hl
      rw [← List.dropLast_concat_getLast hne]
      exact h1 _ _ (ih _ (by simp [hl]))
  exact key _ l rfl
theorem valOf_nil : valOf [] = 0 := rfl
theorem valOf_append (l m : List Int) : valOf (l ++ m) = valOf l * 2 ^ m.length + valOf m := by
  unfold valOf
  rw [List.foldl_append, foldl_val]
  rfl
theorem valOf_snoc (l : List Int) (b : Int) : valOf (l ++ [b]) = valOf l * 2 + b := by unfold valOf; rw [List.foldl_append]; rfl
theorem valOf_range {l : List Int} : IsBits l → 0 ≤ valOf l ∧ valOf l < 2 ^ l.length := by
  refine rev_ind (P := fun l => IsBits l → 0 ≤ valOf l ∧ valOf l < 2 ^ l.length) (fun _ => by simp [valOf]) (fun l b ih h => ?_) l
  have h1 := ih (fun x hx => h x (by simp [hx]))
  have h2 := h b (by simp)
  rw [valOf_snoc, List.length_append, List.length_singleton, Int.pow_succ]
  omega
theorem bitsOf_succ (n : Nat) (v : Int) : bitsOf (n + 1) v = bitsOf n (v / 2) ++ [v % 2] := by
  simp only [bitsOf]
  rw [List.range_succ, List.map_append]
  congr 1
  · apply List.map_congr_left
    intro i hi
    simp only [List.mem_range] at hi
    rw [show n + 1 - 1 - i = (n - 1 - i) + 1 from by omega, Int.pow_succ, Int.mul_comm, ← Int.ediv_ediv_of_nonneg (by decide)]
  · simp
theorem bitsOf_zero (v : Int) : bitsOf 0 v = [] := rfl
theorem bitsOf_add (m n : Nat) (v : Int) : bitsOf (m + n) v = bitsOf m (v / 2 ^ n) ++ bitsOf n v := by
  induction n generalizing v with
  | zero => simp [bitsOf_zero]
  | succ n ih =>
    rw [← Nat.add_assoc, bitsOf_succ, ih, bitsOf_succ n, List.append_assoc, Int.ediv_ediv_of_nonneg (by decide), Int.pow_succ, Int.mul_comm]
theorem valOf_bitsOf (n : Nat) (v : Int) : valOf (bitsOf n v) = v % 2 ^ n := by
  induction n generalizing v with
  | zero => simp [bitsOf_zero, valOf_nil]
  | succ n ih =>
    rw [bitsOf_succ, valOf_snoc, ih, Int.pow_succ]
    have hp : (0 : Int) < 2 ^ n := Int.pow_pos (by decide)
    generalize (2 : Int) ^ n = q at *
    have h3 : v / (q * 2) = v / 2 / q := by rw [Int.mul_comm, Int.ediv_ediv_of_nonneg (by decide)]
    rw [Int.emod_def v (q * 2), Int.emod_def (v / 2) q, h3, Int.mul_comm q 2, Int.mul_assoc 2 q]
    generalize q * (v / 2 / q) = z
    omega
/-- A number's bits and back: the bits of what bits tell. -/
theorem bitsOf_valOf {l : List Int} : IsBits l → bitsOf l.length (valOf l) = l := by
  refine rev_ind (P := fun l => IsBits l → bitsOf l.length (valOf l) = l) (fun _ => rfl) (fun l b ih h => ?_) l
  have h1 := ih (fun x hx => h x (by simp [hx]))
  have h2 := h b (by simp)
  rw [List.length_append, List.length_singleton, bitsOf_succ, valOf_snoc]
  have e1 : (valOf l * 2 + b) / 2 = valOf l := by omega
  have e2 : (valOf l * 2 + b) % 2 = b := by omega
  rw [e1, e2, h1]
/-- Only the low bits count. -/
theorem bitsOf_mod (n : Nat) (v : Int) : bitsOf n (v % 2 ^ n) = bitsOf n v := by
  have := bitsOf_valOf (bitsOf_bits n v)
  rwa [bitsOf_length, valOf_bitsOf] at this
theorem byteVal_bits (b : Int) (l : List Int) : byteVal (bitsOf 8 b ++ l) = b % 256 := by
  have h := valOf_bitsOf 8 b
  have e : (2 : Int) ^ 8 = 256 := by decide
  rw [e] at h
  rw [← h]
  simp only [bitsOf, byteVal, valOf, List.range, List.range.loop, List.map, List.foldl, List.cons_append, List.getD_cons_zero, List.getD_cons_succ]
  omega
theorem packB_nil : packB [] = [] := rfl
theorem packB_byte (b : Int) (l : List Int) : packB (bitsOf 8 b ++ l) = b % 256 :: packB l := by
  have hl : (bitsOf 8 b ++ l).length = l.length + 8 := by rw [List.length_append, bitsOf_length]; omega
  unfold packB
  rw [hl, show (l.length + 8 + 7) / 8 = (l.length + 7) / 8 + 1 from by omega, List.range_succ_eq_map, List.map_cons, List.map_map]
  rw [Nat.mul_zero, List.drop_zero, byteVal_bits]
  refine congrArg (b % 256 :: ·) (List.map_congr_left fun j _ => ?_)
  show byteVal ((bitsOf 8 b ++ l).drop (8 * (j + 1))) = byteVal (l.drop (8 * j))
  rw [List.drop_append, bitsOf_length, List.drop_of_length_le (by rw [bitsOf_length]; omega), List.nil_append, show 8 * (j + 1) - 8 = 8 * j from by omega]
/-- Whole bytes: the bytes of a number's bits. -/
theorem packB_bytes (l : List Int) (hb : ∀ b ∈ l, 0 ≤ b ∧ b ≤ 255) (m : List Int) : packB ((l.flatMap fun b => bitsOf 8 b) ++ m) = l ++ packB m := by
  induction l with
  | nil => rfl
  | cons b l ih =>
    have h := hb b (by simp)
    rw [List.flatMap_cons, List.append_assoc, packB_byte, ih (fun x hx => hb x (by simp [hx]))]
    rw [List.cons_append, Int.emod_eq_of_lt h.1 (by omega)]
theorem bytesOf_range (s : ByteArray) : ∀ b ∈ bytesOf s, 0 ≤ b ∧ b ≤ 255 := by
  intro b hb
  simp only [bytesOf, List.mem_map] at hb
  obtain ⟨u, _, rfl⟩ := hb
  have := u.toNat_lt
  omega
theorem sBits_length (s : ByteArray) : (sBits s).length = 8 * s.size := by
  unfold sBits
  have : ∀ l : List Int, (l.flatMap fun b => bitsOf 8 b).length = 8 * l.length := by
    intro l
    induction l with
    | nil => rfl
    | cons b l ih => rw [List.flatMap_cons, List.length_append, ih, bitsOf_length, List.length_cons]; omega
  rw [this, bytesOf_length]
theorem sBits_bits (s : ByteArray) : IsBits (sBits s) := by
  intro b hb
  simp only [sBits, List.mem_flatMap] at hb
  obtain ⟨p, _, hb⟩ := hb
  exact bitsOf_bits _ _ b hb
theorem strOfNums_bytesOf (s : ByteArray) : strOfNums (bytesOf s) = s := by
  unfold strOfNums bytesOf
  apply ByteArray.ext
  simp [Function.comp_def]
theorem packB_sBits (s : ByteArray) : packB (sBits s) = bytesOf s := by
  have := packB_bytes (bytesOf s) (bytesOf_range s) []
  rw [List.append_nil, packB_nil, List.append_nil] at this
  exact this

end Go.Proofs.Ytmdaaphjndjakaf.Gv

/- Plain words of layer 12: requests, one above the other, the best. No program in sight. -/
namespace Go.Proofs.Ytmdaaphjndjakaf.Gv
open Go.RowKit Go.Proofs.YtmdaaphjndjakafW.PrintWords
set_option linter.unusedVariables false

def rqMay (k : Int) : Bool := decide (0 ≤ k ∧ k ≤ 13)
def rqAbove (k l : Int) : Bool := rqMay k && (!rqMay l || decide (k < l))
def bestOf (l : List Int) : Int := l.foldl (fun b k => if rqAbove k b = true then k else b) 14
theorem above_iff (k l : Int) : rqAbove k l = true ↔ (0 ≤ k ∧ k ≤ 13) ∧ (¬ (0 ≤ l ∧ l ≤ 13) ∨ k < l) := by
  simp only [rqAbove, rqMay, Bool.and_eq_true, Bool.or_eq_true, Bool.not_eq_true', decide_eq_true_eq, decide_eq_false_iff_not]
theorem best_snoc (l : List Int) (b : Int) : bestOf (l ++ [b]) = if rqAbove b (bestOf l) = true then b else bestOf l := by
  unfold bestOf; rw [List.foldl_append]; rfl
theorem best_spec (l : List Int) : (bestOf l = 14 ∧ ∀ x ∈ l, ¬ (0 ≤ x ∧ x ≤ 13)) ∨ (bestOf l ∈ l ∧ 0 ≤ bestOf l ∧ bestOf l ≤ 13 ∧ ∀ x ∈ l, 0 ≤ x → x ≤ 13 → bestOf l ≤ x) := by
  refine rev_ind (P := fun l => (bestOf l = 14 ∧ ∀ x ∈ l, ¬ (0 ≤ x ∧ x ≤ 13)) ∨ (bestOf l ∈ l ∧ 0 ≤ bestOf l ∧ bestOf l ≤ 13 ∧ ∀ x ∈ l, 0 ≤ x → x ≤ 13 → bestOf l ≤ x)) (.inl ⟨rfl, by simp⟩) (fun l b ih => ?_) l
  rw [best_snoc]
  have ha := above_iff b (bestOf l)
  by_cases h : rqAbove b (bestOf l) = true
  · rw [if_pos h]
    have hb := ha.1 h
    refine .inr ⟨by simp, hb.1.1, hb.1.2, fun x hx h0 h1 => ?_⟩
    rcases List.mem_append.1 hx with hx | hx
    · rcases ih with ih | ih
      · exact absurd ⟨h0, h1⟩ (ih.2 x hx)
      · have := ih.2.2.2 x hx h0 h1
        rcases hb.2 with h2 | h2 <;> omega
    · simp at hx; omega
  · rw [if_neg h]
    have hn : ¬ ((0 ≤ b ∧ b ≤ 13) ∧ (¬ (0 ≤ bestOf l ∧ bestOf l ≤ 13) ∨ b < bestOf l)) := fun h2 => h (ha.2 h2)
    rcases ih with ih | ih
    · refine .inl ⟨ih.1, fun x hx => ?_⟩
      rcases List.mem_append.1 hx with hx | hx
      · exact ih.2 x hx
      · simp at hx
        rw [ih.1] at hn
        omega
    · refine .inr ⟨by simp [ih.1], ih.2.1, ih.2.2.1, fun x hx h0 h1 => ?_⟩
      rcases List.mem_append.1 hx with hx | hx
      · exact ih.2.2.2 x hx h0 h1
      · simp at hx
        omega

end Go.Proofs.Ytmdaaphjndjakaf.Gv

/- Layer 12: one above the other, the best, the program's: plain words. -/
namespace Go.Proofs.Ytmdaaphjndjakaf.LReqTells
open Go.RowKit Go.Proofs.Ytmdaaphjndjakaf.PReqTells Go.Proofs.YtmdaaphjndjakafW.PrintWords Go.Proofs.YtmdaaphjndjakafW.PrintLast Go.Proofs.YtmdaaphjndjakafW.PrintMore Go.Proofs.Ytmdaaphjndjakaf
set_option linter.unusedVariables false
set_option linter.unusedSimpArgs false

theorem rq_wrap {n : Int} (h0 : -9223372036854775808 ≤ n) (h1 : n ≤ 9223372036854775807) : wrap64 n = n := by unfold wrap64; omega
theorem rq_may (a : Int) : req_Kind_May.f a = some (Gv.rqMay a) := by
  unfold req_Kind_May.f Gv.rqMay
  by_cases h : a ≥ 0
  · rw [if_pos h]
    have : (0 ≤ a ∧ a ≤ 13) = (a ≤ 13) := by apply propext; omega
    simp [this]
  · rw [if_neg h, decide_eq_false (by omega)]
theorem rq_above (a b : Int) : req_Kind_Above.f a b = some (Gv.rqAbove a b) := by
  unfold req_Kind_Above.f Gv.rqAbove
  simp only [rq_may, Option.bind_some]
  cases Gv.rqMay a <;> cases Gv.rqMay b <;> simp
theorem best_loop (l : List Int) (hl : l.length ≤ 1000) (d : Nat) : ∀ i : Nat, l.length - i = d → i ≤ l.length → Ev (fun k => req_Best.l0 k (Gv.bestOf (l.take i)) l (l.length : Int) (i : Int)) (Gv.bestOf l) := by
  induction d with
  | zero =>
    intro i hi hi2
    rw [List.take_of_length_le (by omega)]
    refine Ev.step (f := fun k => req_Best.l0 (k + 1) (Gv.bestOf l) l (l.length : Int) (i : Int)) (fun k => rfl) ?_
    simp only [req_Best.l0, if_neg (show ¬ (i : Int) < (l.length : Int) from by omega)]
    exact Ev.now _
  | succ d ih =>
    intro i hi hi2
    have hil : i < l.length := by omega
    have h := ih (i + 1) (by omega) (by omega)
    have hr : rd l (i : Int) = l[i] := by unfold rd; simp [List.getD_eq_getElem?_getD, hil]
    rw [List.take_succ_eq_append_getElem hil, Gv.best_snoc] at h
    refine Ev.step (f := fun k => req_Best.l0 (k + 1) (Gv.bestOf (l.take i)) l (l.length : Int) (i : Int)) (fun k => rfl) ?_
    simp only [req_Best.l0, if_pos (show (i : Int) < (l.length : Int) from by omega), if_pos (show (0 : Int) ≤ (i : Int) from by omega), hr, rq_above, Option.bind_some, rq_wrap (n := (i : Int) + 1) (by omega) (by omega)]
    by_cases ha : Gv.rqAbove l[i] (Gv.bestOf (l.take i)) = true
    · rw [if_pos ha] at h
      simp only [if_pos ha]
      exact h
    · rw [if_neg ha] at h
      simp only [if_neg ha]
      exact h
theorem ev_best (l : List Int) (hl : l.length ≤ 1000) : Ev (fun k => req_Best.f k l) (Gv.bestOf l) := best_loop l hl _ 0 rfl (by omega)

end Go.Proofs.Ytmdaaphjndjakaf.LReqTells

namespace Go.Proofs.Ytmdaaphjndjakaf.Pure
open Go.RowKit Go.Proofs.Ytmdaaphjndjakaf.PReqTells Go.Proofs.YtmdaaphjndjakafW.PrintWords Go.Proofs.YtmdaaphjndjakafW.PrintLast Go.Proofs.YtmdaaphjndjakafW.PrintMore Go.Proofs.Ytmdaaphjndjakaf Go.Proofs.Ytmdaaphjndjakaf.LReqTells
set_option linter.unusedVariables false
set_option linter.unusedSimpArgs false

theorem qt_awake : Ev (fun k => carousellaw12_Awake.f k) true :=
  Ev.of carousellaw12_Awake.mono (k := 60) (by decide +kernel)
theorem best_is (l : List Int) (x : Int) (hx : x ∈ l) (h0 : 0 ≤ x) (h1 : x ≤ 13) (hm : ∀ y ∈ l, 0 ≤ y → x ≤ y) : Gv.bestOf l = x := by
  rcases Gv.best_spec l with h | h
  · exact absurd ⟨h0, h1⟩ (h.2 x hx)
  · have a1 := h.2.2.2 x hx h0 h1
    have a2 := hm _ h.1 h.2.1
    omega
theorem best_none (l : List Int) (hm : ∀ y ∈ l, 0 ≤ y → 14 ≤ y) : Gv.bestOf l = 14 := by
  rcases Gv.best_spec l with h | h
  · exact h.1
  · have := hm _ h.1 h.2.1
    omega
theorem rbest (l : List Int) (hl : l.length ≤ 1000) (m : Nat) : ∀ x : Int, 14 - x = (m : Int) → 0 ≤ x → (∀ y ∈ l, 0 ≤ y → x ≤ y) → Ev (fun k => carouselref12_Best.l0 k l x) (Gv.bestOf l) := by
  induction m with
  | zero =>
    intro x hx h0 hm
    obtain rfl : x = 14 := by omega
    refine Ev.step (f := fun k => carouselref12_Best.l0 (k + 1) l 14) (fun k => rfl) ?_
    simp only [carouselref12_Best.l0]
    rw [best_none l hm]
    exact Ev.congr (fun k => by rw [if_neg (by decide)]) (Ev.now _)
  | succ m ih =>
    intro x hx h0 hm
    have key : ∀ (d i : Nat), l.length - i = d → i ≤ l.length → (∀ j : Nat, ∀ h : j < l.length, j < i → l[j] ≠ x) → Ev (fun k => carouselref12_Best.l1 k l x (i : Int)) (Gv.bestOf l) := by
      intro d
      induction d with
      | zero =>
        intro i hi hi2 hn
        have h := ih (x + 1) (by omega) (by omega) (fun y hy hy0 => by
          have a1 := hm y hy hy0
          obtain ⟨j, hj, rfl⟩ := List.getElem_of_mem hy
          have a2 := hn j hj (by omega)
          omega)
        refine Ev.step (f := fun k => carouselref12_Best.l1 (k + 1) l x (i : Int)) (fun k => rfl) ?_
        simp only [carouselref12_Best.l1, if_neg (show ¬ (i : Int) < (l.length : Int) from by omega), rq_wrap (n := x + 1) (by omega) (by omega)]
        exact h
      | succ d ihd =>
        intro i hi hi2 hn
        have hil : i < l.length := by omega
        have hr : rd l (i : Int) = l[i] := by unfold rd; simp [List.getD_eq_getElem?_getD, hil]
        refine Ev.step (f := fun k => carouselref12_Best.l1 (k + 1) l x (i : Int)) (fun k => rfl) ?_
        simp only [carouselref12_Best.l1, if_pos (show (i : Int) < (l.length : Int) from by omega), if_pos (show (0 : Int) ≤ (i : Int) from by omega), hr, rq_wrap (n := (i : Int) + 1) (by omega) (by omega)]
        by_cases he : l[i] = x
        · simp only [if_pos he]
          rw [best_is l x (by rw [← he]; exact List.getElem_mem hil) h0 (by omega) hm]
          exact Ev.now _
        · simp only [if_neg he]
          exact ihd (i + 1) (by omega) (by omega) (fun j hj hj2 => by
            by_cases e : j = i
            · subst e; exact he
            · exact hn j hj (by omega))
    refine Ev.step (f := fun k => carouselref12_Best.l0 (k + 1) l x) (fun k => rfl) ?_
    simp only [carouselref12_Best.l0, if_pos (show x ≤ 13 from by omega)]
    exact key _ 0 rfl (by omega) (fun j _ hj => by omega)
theorem ev_rbest (l : List Int) (hl : l.length ≤ 1000) : Ev (fun k => carouselref12_Best.f k l) (Gv.bestOf l) := rbest l hl 14 0 (by decide) (by decide) (fun _ _ h => h)
theorem qt_of (r : Int) (b kp e : Bool) (n : Int) : ∃ x, req_Of.f r b kp e n = some x ∧ Ev (fun k => carouselref12_Of.f k r b kp e n) x := by
  have hj : ∀ c : Bool, (c = true → r = 0) → Ev (fun k => carouselref12_Of.j0 k c r b kp e n) (if c = true then 12 else if r = 0 then 13 else 14) := by
    intro c _
    refine Ev.step (f := fun k => carouselref12_Of.j0 (k + 1) c r b kp e n) (fun k => rfl) ?_
    simp only [carouselref12_Of.j0]
    cases c with
    | true => simp only [if_true]; exact Ev.now _
    | false =>
      simp only [Bool.false_eq_true, if_false]
      by_cases h : r = 0
      · simp only [if_pos h]; exact Ev.now _
      · simp only [if_neg h]; exact Ev.now _
  simp only [carouselref12_Of.f]
  unfold req_Of.f
  by_cases h1 : r = 13
  · refine ⟨2, by rw [if_pos h1], ?_⟩
    simp only [if_pos h1]; exact Ev.now _
  by_cases h2 : r = 11
  · refine ⟨5, by rw [if_neg h1, if_pos h2], ?_⟩
    simp only [if_neg h1, if_pos h2]; exact Ev.now _
  by_cases h3 : r = 7
  · refine ⟨6, by rw [if_neg h1, if_neg h2, if_pos h3], ?_⟩
    simp only [if_neg h1, if_neg h2, if_pos h3]; exact Ev.now _
  by_cases h4 : r = 0
  · have h := hj b (fun _ => h4)
    rw [if_pos h4] at h
    refine ⟨if b = true then 12 else 13, by rw [if_neg h1, if_neg h2, if_neg h3, if_pos h4]; cases b <;> rfl, ?_⟩
    simp only [if_neg h1, if_neg h2, if_neg h3, if_pos h4]; exact h
  · have h := hj false (by simp)
    rw [if_neg (by simp), if_neg h4] at h
    refine ⟨14, by rw [if_neg h1, if_neg h2, if_neg h3, if_neg h4], ?_⟩
    simp only [if_neg h1, if_neg h2, if_neg h3, if_neg h4]; exact h
theorem qt_loop (l : List Int) (hl : l.length ≤ 60) (r : Int) (b kp e : Bool) (n : Int) (d : Nat) : ∀ i : Nat, l.length - i = d → i ≤ l.length → Ev (fun k => carousellaw12_ReqTells.l0 k l (l.take i) l (l.length : Int) (i : Int) r b kp e n) true := by
  induction d with
  | zero =>
    intro i hi hi2
    rw [List.take_of_length_le (by omega)]
    obtain ⟨x, hx1, hx2⟩ := qt_of r b kp e n
    refine Ev.step (f := fun k => carousellaw12_ReqTells.l0 (k + 1) l l l (l.length : Int) (i : Int) r b kp e n) (fun k => rfl) ?_
    simp only [carousellaw12_ReqTells.l0, if_neg (show ¬ (i : Int) < (l.length : Int) from by omega)]
    refine Ev.bind qt_awake ?_
    simp only [if_true, hx1, Option.bind_some, carousellaw05_Of.f]
    refine Ev.bind hx2 ?_
    simp only [if_true]
    refine Ev.bind (ev_best l (by omega)) ?_
    refine Ev.bind (ev_rbest l (by omega)) ?_
    exact Ev.congr (fun k => by simp) (Ev.now true)
  | succ d ih =>
    intro i hi hi2
    have hil : i < l.length := by omega
    have h := ih (i + 1) (by omega) (by omega)
    have hr : rd l (i : Int) = l[i] := by unfold rd; simp [List.getD_eq_getElem?_getD, hil]
    rw [List.take_succ_eq_append_getElem hil] at h
    refine Ev.step (f := fun k => carousellaw12_ReqTells.l0 (k + 1) l (l.take i) l (l.length : Int) (i : Int) r b kp e n) (fun k => rfl) ?_
    simp only [carousellaw12_ReqTells.l0, if_pos (show (i : Int) < (l.length : Int) from by omega), if_pos (show (0 : Int) ≤ (i : Int) from by omega), if_pos (show (l.take i).length < 17592186044416 from by rw [List.length_take]; omega), hr, rq_wrap (n := (i : Int) + 1) (by omega) (by omega)]
    exact h

theorem ReqTells : carousellaw12_ReqTells.Pure := by
  intro r b kp e n l _ _ _ _ _
  have hgo : Ev (fun k => carousellaw12_ReqTells.f k r b kp e n l) true := by
    simp only [carousellaw12_ReqTells.f]
    by_cases hz : (l.length : Int) > 60
    · simp only [if_pos hz]
      exact Ev.bind qt_awake (f := fun _ x => some x) (Ev.now _)
    · simp only [if_neg hz]
      exact qt_loop l (by omega) r b kp e n _ 0 rfl (by omega)
  exact hgo.rounds

end Go.Proofs.Ytmdaaphjndjakaf.Pure
