/- The law PlanTells holds: addresses, roles, far ends and ends of any plan, node and port are the document's: for every input. -/
import Derived.Test.YtapicoienpbdfaaGvField
import Derived.Test.YtapicoienpbdfaaWMore
import Derived.Test.YtapicoienpbdfaaPPlanTellsx2
import Derived.Test.YtapicoienpbdfaaPPlanTellsx4
import Derived.Test.YtapicoienpbdfaaPPlanTellsx11
import Derived.Test.YtapicoienpbdfaaPPlanTellsx10
import Derived.Test.YtapicoienpbdfaaPPlanTellsx19
-- merged out of the texts of this work that it leads to

/- Plain words on bits: the values of parts of a string's bits; how bits of numbers fall apart and go together. No program in sight. -/
namespace Go.Proofs.Ytapicoienpbdfaa.Gv
open Go.RowKit Go.Proofs.YtapicoienpbdfaaW.PrintWords
set_option linter.unusedVariables false

/-- The number of bits, the highest first. -/
def valOf (l : List Int) : Int := l.foldl (fun v b => v * 2 + b) 0
/-- All bits of a string. -/
def sBits (s : ByteArray) : List Int := (bytesOf s).flatMap fun b => bitsOf 8 b
def sumW (ws : List Int) : Int := ws.foldl (· + ·) 0
def okW (ws : List Int) : Bool := ws.all fun w => decide (1 ≤ w) && decide (w ≤ 64)
/-- The values of parts of such widths. -/
def vals : List Int → List Int → List Int
  | _, [] => []
  | bits, w :: ws => valOf (bits.take w.toNat) :: vals (bits.drop w.toNat) ws
/-- What Split comes to. -/
def split (s : ByteArray) (ws : List Int) : List Int × ByteArray × Int :=
  if okW ws = true then
    if sumW ws % 8 = 0 then
      if sumW ws / 8 > (s.size : Int) then ([], ⟨#[]⟩, 1) else (vals (sBits s) ws, s.extract (sumW ws / 8).toNat s.size, 0)
    else ([], ⟨#[]⟩, 3)
  else ([], ⟨#[]⟩, 4)

theorem foldl_val (l : List Int) (a : Int) : l.foldl (fun v b => v * 2 + b) a = a * 2 ^ l.length + valOf l := by
  induction l generalizing a with
  | nil => simp [valOf]
  | cons b l ih =>
    have e : valOf (b :: l) = b * 2 ^ l.length + valOf l := by
      show l.foldl (fun v b => v * 2 + b) (0 * 2 + b) = _
      rw [ih]; simp
    rw [List.foldl_cons, ih, e, List.length_cons, Int.pow_succ, Int.add_mul, Int.mul_assoc, Int.mul_comm 2 (2 ^ l.length), Int.add_assoc]
/-- From behind. -/
theorem rev_ind {P : List Int → Prop} (h0 : P []) (h1 : ∀ l b, P l → P (l ++ [b])) (l : List Int) : P l := by
  have key : ∀ n : Nat, ∀ l : List Int, l.length = n → P l := by
    intro n
    induction n with
    | zero => intro l hl; rw [List.eq_nil_of_length_eq_zero hl]; exact h0
    | succ n ih =>
      intro l hl
      have hne : l ≠ [] := fun e => by rw [e] at hl; simp at hl
      rw [← List.dropLast_concat_getLast hne]
      exact h1 _ _ (ih _ (by simp [hl]))
  exact key _ l rfl
theorem valOf_nil : valOf [] = 0 := rfl
theorem valOf_append (l m : List Int) : valOf (l ++ m) = valOf l * 2 ^ m.length + valOf m := by
  unfold valOf
  rw [List.foldl_append, foldl_val]
  rfl
theorem valOf_snoc (l : List Int) (b : Int) : valOf (l ++ [b]) = valOf l * 2 + b := by unfold valOf; rw [List.foldl_append]; rfl
theorem valOf_range {l : List Int} : IsBits l → 0 ≤ valOf l ∧ valOf l < 2 ^ l.length := by
  refine rev_ind (P := fun l => IsBits l → 0 ≤ valOf l ∧ valOf l < 2 ^ l.length) (fun _ => by simp [valOf]) (fun l b ih h => ?_) l
  have h1 := ih (fun x hx => h x (by simp [hx]))
  have h2 := h b (by simp)
  rw [valOf_snoc, List.length_append, List.length_singleton, Int.pow_succ]
  omega
theorem bitsOf_succ (n : Nat) (v : Int) : bitsOf (n + 1) v = bitsOf n (v / 2) ++ [v % 2] := by
  simp only [bitsOf]
  rw [List.range_succ, List.map_append]
  congr 1
  · apply List.map_congr_left
    intro i hi
    simp only [List.mem_range] at hi
    rw [show n + 1 - 1 - i = (n - 1 - i) + 1 from by omega, Int.pow_succ, Int.mul_comm, ← Int.ediv_ediv_of_nonneg (by decide)]
  · simp
theorem bitsOf_zero (v : Int) : bitsOf 0 v = [] := rfl
theorem bitsOf_add (m n : Nat) (v : Int) : bitsOf (m + n) v = bitsOf m (v / 2 ^ n) ++ bitsOf n v := by
  induction n generalizing v with
  | zero => simp [bitsOf_zero]
  | succ n ih =>
    rw [← Nat.add_assoc, bitsOf_succ, ih, bitsOf_succ n, List.append_assoc, Int.ediv_ediv_of_nonneg (by decide), Int.pow_succ, Int.mul_comm]
theorem valOf_bitsOf (n : Nat) (v : Int) : valOf (bitsOf n v) = v % 2 ^ n := by
  induction n generalizing v with
  | zero => simp [bitsOf_zero, valOf_nil]
  | succ n ih =>
    rw [bitsOf_succ, valOf_snoc, ih, Int.pow_succ]
    have hp : (0 : Int) < 2 ^ n := Int.pow_pos (by decide)
    generalize (2 : Int) ^ n = q at *
    have h3 : v / (q * 2) = v / 2 / q := by rw [Int.mul_comm, Int.ediv_ediv_of_nonneg (by decide)]
    rw [Int.emod_def v (q * 2), Int.emod_def (v / 2) q, h3, Int.mul_comm q 2, Int.mul_assoc 2 q]
    generalize q * (v / 2 / q) = z
    omega
/-- A number's bits and back: the bits of what bits tell. -/
theorem bitsOf_valOf {l : List Int} : IsBits l → bitsOf l.length (valOf l) = l := by
  refine rev_ind (P := fun l => IsBits l → bitsOf l.length (valOf l) = l) (fun _ => rfl) (fun l b ih h => ?_) l
  have h1 := ih (fun x hx => h x (by simp [hx]))
  have h2 := h b (by simp)
  rw [List.length_append, List.length_singleton, bitsOf_succ, valOf_snoc]
  have e1 : (valOf l * 2 + b) / 2 = valOf l := by omega
  have e2 : (valOf l * 2 + b) % 2 = b := by omega
  rw [e1, e2, h1]
/-- Only the low bits count. -/
theorem bitsOf_mod (n : Nat) (v : Int) : bitsOf n (v % 2 ^ n) = bitsOf n v := by
  have := bitsOf_valOf (bitsOf_bits n v)
  rwa [bitsOf_length, valOf_bitsOf] at this
theorem byteVal_bits (b : Int) (l : List Int) : byteVal (bitsOf 8 b ++ l) = b % 256 := by
  have h := valOf_bitsOf 8 b
  have e : (2 : Int) ^ 8 = 256 := by decide
  rw [e] at h
  rw [← h]
  simp only [bitsOf, byteVal, valOf, List.range, List.range.loop, List.map, List.foldl, List.cons_append, List.getD_cons_zero, List.getD_cons_succ]
  omega
theorem packB_nil : packB [] = [] := rfl
theorem packB_byte (b : Int) (l : List Int) : packB (bitsOf 8 b ++ l) = b % 256 :: packB l := by
  have hl : (bitsOf 8 b ++ l).length = l.length + 8 := by rw [List.length_append, bitsOf_length]; omega
  unfold packB
  rw [hl, show (l.length + 8 + 7) / 8 = (l.length + 7) / 8 + 1 from by omega, List.range_succ_eq_map, List.map_cons, List.map_map]
  rw [Nat.mul_zero, List.drop_zero, byteVal_bits]
  refine congrArg (b % 256 :: ·) (List.map_congr_left fun j _ => ?_)
  show byteVal ((bitsOf 8 b ++ l).drop (8 * (j + 1))) = byteVal (l.drop (8 * j))
  rw [List.drop_append, bitsOf_length, List.drop_of_length_le (by rw [bitsOf_length]; omega), List.nil_append, show 8 * (j + 1) - 8 = 8 * j from by omega]
/-- Whole bytes: the bytes of a number's bits. -/
theorem packB_bytes (l : List Int) (hb : ∀ b ∈ l, 0 ≤ b ∧ b ≤ 255) (m : List Int) : packB ((l.flatMap fun b => bitsOf 8 b) ++ m) = l ++ packB m := by
  induction l with
  | nil => rfl
  | cons b l ih =>
    have h := hb b (by simp)
    rw [List.flatMap_cons, List.append_assoc, packB_byte, ih (fun x hx => hb x (by simp [hx]))]
    rw [List.cons_append, Int.emod_eq_of_lt h.1 (by omega)]
theorem bytesOf_range (s : ByteArray) : ∀ b ∈ bytesOf s, 0 ≤ b ∧ b ≤ 255 := by
  intro b hb
  simp only [bytesOf, List.mem_map] at hb
  obtain ⟨u, _, rfl⟩ := hb
  have := u.toNat_lt
  omega
theorem sBits_length (s : ByteArray) : (sBits s).length = 8 * s.size := by
  unfold sBits
  have : ∀ l : List Int, (l.flatMap fun b => bitsOf 8 b).length = 8 * l.length := by
    intro l
    induction l with
    | nil => rfl
    | cons b l ih => rw [List.flatMap_cons, List.length_append, ih, bitsOf_length, List.length_cons]; omega
  rw [this, bytesOf_length]
theorem sBits_bits (s : ByteArray) : IsBits (sBits s) := by
  intro b hb
  simp only [sBits, List.mem_flatMap] at hb
  obtain ⟨p, _, hb⟩ := hb
  exact bitsOf_bits _ _ b hb
theorem strOfNums_bytesOf (s : ByteArray) : strOfNums (bytesOf s) = s := by
  unfold strOfNums bytesOf
  apply ByteArray.ext
  simp [Function.comp_def]
theorem packB_sBits (s : ByteArray) : packB (sBits s) = bytesOf s := by
  have := packB_bytes (bytesOf s) (bytesOf_range s) []
  rw [List.append_nil, packB_nil, List.append_nil] at this
  exact this

end Go.Proofs.Ytapicoienpbdfaa.Gv

/- What is wrong with a plan: the program's comes to plain words. -/
namespace Go.Proofs.Ytapicoienpbdfaa.LPlanTells
open Go.RowKit Go.Proofs.Ytapicoienpbdfaa.PPlanTells Go.Proofs.YtapicoienpbdfaaW.PrintWords Go.Proofs.YtapicoienpbdfaaW.PrintLast Go.Proofs.YtapicoienpbdfaaW.PrintMore Go.Proofs.Ytapicoienpbdfaa
set_option linter.unusedVariables false
set_option linter.unusedSimpArgs false

theorem pl_wrap {n : Int} (h0 : -9223372036854775808 ≤ n) (h1 : n ≤ 9223372036854775807) : wrap64 n = n := by unfold wrap64; omega
def okLen (x : Int) : Bool := decide (1 ≤ x) && decide (x ≤ 1048576)
def plan3 (rm q : Int) : Int := if 1 ≤ rm ∧ rm ≤ 1024 ∧ 1 ≤ q ∧ q ≤ 256 then 0 else 4
def plan2 (iv h g rs w gp pe ag rm q : Int) : Int := if ([iv, g, rs, w, gp, pe, ag].all okLen) = true ∧ 0 ≤ h ∧ h ≤ 1048576 then plan3 rm q else 4
def plan1 (d r iv h g rs w gp pe ag rm q : Int) : Int := if 1 ≤ d ∧ d ≤ 4094 ∧ 1 ≤ r ∧ r ≤ 4094 ∧ d ≠ r then plan2 iv h g rs w gp pe ag rm q else 5
/-- What is wrong with a plan. -/
def planCheck (n o lv d r iv h g rs w gp pe ag rm q : Int) : Int := if 3 ≤ n ∧ n ≤ 16 ∧ 0 ≤ o ∧ o < n ∧ lv ≤ 7 then plan1 d r iv h g rs w gp pe ag rm q else 4

theorem lens_loop (l : List Int) (hl : l.length ≤ 1000) (m : Nat) : ∀ i : Nat, l.length - i = m → i ≤ l.length → Ev (fun k => plan_lengths.l0 k l (l.length : Int) (i : Int)) ((l.drop i).all okLen) := by
  induction m with
  | zero =>
    intro i hi hi2
    rw [List.drop_of_length_le (by omega)]
    refine Ev.step (f := fun k => plan_lengths.l0 (k + 1) l (l.length : Int) (i : Int)) (fun k => rfl) ?_
    simp only [plan_lengths.l0, if_neg (show ¬ (i : Int) < (l.length : Int) from by omega)]
    exact Ev.now _
  | succ m ih =>
    intro i hi hi2
    have hil : i < l.length := by omega
    have hr : rd l (i : Int) = l[i] := by unfold rd; simp [List.getD_eq_getElem?_getD, hil]
    have h := ih (i + 1) (by omega) (by omega)
    rw [List.drop_eq_getElem_cons hil, List.all_cons]
    refine Ev.step (f := fun k => plan_lengths.l0 (k + 1) l (l.length : Int) (i : Int)) (fun k => rfl) ?_
    simp only [plan_lengths.l0, if_pos (show (i : Int) < (l.length : Int) from by omega), if_pos (show (0 : Int) ≤ (i : Int) from by omega), hr]
    by_cases h1 : l[i] < 1
    · simp only [if_pos h1]
      rw [show okLen l[i] = false from by unfold okLen; rw [decide_eq_false (by omega)]; rfl]
      exact Ev.now _
    · simp only [if_neg h1]
      by_cases h2 : l[i] > 1048576
      · simp only [if_pos h2]
        rw [show okLen l[i] = false from by unfold okLen; rw [decide_eq_false (show ¬ l[i] ≤ 1048576 from by omega), Bool.and_false]]
        exact Ev.now _
      · simp only [if_neg h2]
        rw [show okLen l[i] = true from by unfold okLen; rw [decide_eq_true (by omega), decide_eq_true (by omega)]; rfl, Bool.true_and, pl_wrap (by omega) (by omega)]
        exact h
theorem ev_lens (l : List Int) (hl : l.length ≤ 1000) : Ev (fun k => plan_lengths.f k l) (l.all okLen) := lens_loop l hl _ 0 rfl (by omega)
theorem pl_vlan (n : Int) : plan_vlan.f n = some (decide (1 ≤ n ∧ n ≤ 4094)) := by
  unfold plan_vlan.f
  by_cases h : n ≥ 1
  · rw [if_pos h]
    have : (1 ≤ n ∧ n ≤ 4094) = (n ≤ 4094) := by apply propext; omega
    simp [this]
  · rw [if_neg h, decide_eq_false (by omega)]
theorem pc_j4 (x : Bool) : Ev (fun k => plan_Plan_Check.j4 k x) (if x = true then 4 else 0) := by
  refine Ev.step (f := fun k => plan_Plan_Check.j4 (k + 1) x) (fun k => rfl) ?_
  simp only [plan_Plan_Check.j4]
  refine Ev.congr (fun k => ?_) (Ev.now _)
  cases x <;> rfl
theorem pc_j3 (x : Bool) (n o lv d r iv h g rs w gp pe ag rm q : Int) (rv : Bool) : Ev (fun k => plan_Plan_Check.j3 k x n o lv d r iv h g rs w gp pe ag rm q rv) (if x = true then 4 else plan3 rm q) := by
  refine Ev.step (f := fun k => plan_Plan_Check.j3 (k + 1) x n o lv d r iv h g rs w gp pe ag rm q rv) (fun k => rfl) ?_
  simp only [plan_Plan_Check.j3]
  cases x with
  | true => simp only [if_true]; exact Ev.now _
  | false =>
    simp only [Bool.false_eq_true, if_false]
    by_cases a1 : rm < 1
    · simp only [if_pos a1]
      rw [show plan3 rm q = 4 from by unfold plan3; rw [if_neg (by omega)]]
      exact pc_j4 true
    · simp only [if_neg a1]
      by_cases a2 : rm > 1024
      · simp only [if_pos a2]
        rw [show plan3 rm q = 4 from by unfold plan3; rw [if_neg (by omega)]]
        exact pc_j4 true
      · simp only [if_neg a2]
        by_cases a3 : q < 1
        · simp only [if_pos a3]
          rw [show plan3 rm q = 4 from by unfold plan3; rw [if_neg (by omega)]]
          exact pc_j4 true
        · simp only [if_neg a3]
          have hj := pc_j4 (decide (q > 256))
          by_cases a4 : q > 256
          · rw [show plan3 rm q = 4 from by unfold plan3; rw [if_neg (by omega)]]
            rw [if_pos (by simpa using a4)] at hj
            exact hj
          · rw [show plan3 rm q = 0 from by unfold plan3; rw [if_pos (by omega)]]
            rw [if_neg (by simpa using a4)] at hj
            exact hj
theorem pc_j2 (x : Bool) (n o lv d r iv h g rs w gp pe ag rm q : Int) (rv : Bool) : Ev (fun k => plan_Plan_Check.j2 k x n o lv d r iv h g rs w gp pe ag rm q rv) (if x = true then 5 else plan2 iv h g rs w gp pe ag rm q) := by
  have hl := ev_lens [iv, g, rs, w, gp, pe, ag] (by simp)
  have ht := pc_j3 true n o lv d r iv h g rs w gp pe ag rm q rv
  rw [if_pos rfl] at ht
  refine Ev.step (f := fun k => plan_Plan_Check.j2 (k + 1) x n o lv d r iv h g rs w gp pe ag rm q rv) (fun k => rfl) ?_
  simp only [plan_Plan_Check.j2]
  cases x with
  | true => simp only [if_true]; exact Ev.now _
  | false =>
    simp only [Bool.false_eq_true, if_false]
    refine Ev.bind hl ?_
    unfold plan2
    cases hb : [iv, g, rs, w, gp, pe, ag].all okLen with
    | true =>
      simp only [if_true, true_and]
      by_cases a1 : h < 0
      · simp only [if_pos a1]
        rw [if_neg (by omega)]
        exact ht
      · simp only [if_neg a1]
        have hj := pc_j3 (decide (h > 1048576)) n o lv d r iv h g rs w gp pe ag rm q rv
        by_cases a2 : h > 1048576
        · rw [if_pos (by simpa using a2)] at hj
          rw [if_neg (by omega)]
          exact hj
        · rw [if_neg (by simpa using a2)] at hj
          rw [if_pos (by omega)]
          exact hj
    | false =>
      simp only [Bool.false_eq_true, if_false, false_and]
      exact ht
theorem pc_j1 (x : Bool) (n o lv d r iv h g rs w gp pe ag rm q : Int) (rv : Bool) : Ev (fun k => plan_Plan_Check.j1 k x n o lv d r iv h g rs w gp pe ag rm q rv) (if x = true then 4 else plan1 d r iv h g rs w gp pe ag rm q) := by
  have ht := pc_j2 true n o lv d r iv h g rs w gp pe ag rm q rv
  rw [if_pos rfl] at ht
  have hj := pc_j2 (d == r) n o lv d r iv h g rs w gp pe ag rm q rv
  refine Ev.step (f := fun k => plan_Plan_Check.j1 (k + 1) x n o lv d r iv h g rs w gp pe ag rm q rv) (fun k => rfl) ?_
  simp only [plan_Plan_Check.j1, pl_vlan, Option.bind_some]
  cases x with
  | true => simp only [if_true]; exact Ev.now _
  | false =>
    simp only [Bool.false_eq_true, if_false]
    unfold plan1
    by_cases a1 : 1 ≤ d ∧ d ≤ 4094
    · simp only [decide_eq_true a1, if_true]
      by_cases a2 : 1 ≤ r ∧ r ≤ 4094
      · simp only [decide_eq_true a2, if_true]
        by_cases a3 : d = r
        · rw [if_pos (by simpa using a3)] at hj
          rw [if_neg (fun h => h.2.2.2.2 a3)]
          exact hj
        · rw [if_neg (by simpa using a3)] at hj
          rw [if_pos ⟨a1.1, a1.2, a2.1, a2.2, a3⟩]
          exact hj
      · simp only [decide_eq_false a2, Bool.false_eq_true, if_false]
        rw [if_neg (fun h => a2 ⟨h.2.2.1, h.2.2.2.1⟩)]
        exact ht
    · simp only [decide_eq_false a1, Bool.false_eq_true, if_false]
      rw [if_neg (fun h => a1 ⟨h.1, h.2.1⟩)]
      exact ht
theorem pc_j0 (x : Bool) (n o lv d r iv h g rs w gp pe ag rm q : Int) (rv : Bool) (hn : x = false → 3 ≤ n ∧ n ≤ 16) : Ev (fun k => plan_Plan_Check.j0 k x n o lv d r iv h g rs w gp pe ag rm q rv) (if x = true then 4 else planCheck n o lv d r iv h g rs w gp pe ag rm q) := by
  have ht := pc_j1 true n o lv d r iv h g rs w gp pe ag rm q rv
  rw [if_pos rfl] at ht
  have hj := pc_j1 (decide (lv > 7)) n o lv d r iv h g rs w gp pe ag rm q rv
  refine Ev.step (f := fun k => plan_Plan_Check.j0 (k + 1) x n o lv d r iv h g rs w gp pe ag rm q rv) (fun k => rfl) ?_
  simp only [plan_Plan_Check.j0]
  cases x with
  | true => simp only [if_true]; exact Ev.now _
  | false =>
    have hn := hn rfl
    simp only [Bool.false_eq_true, if_false]
    unfold planCheck
    by_cases a1 : o < 0
    · simp only [if_pos a1]; rw [if_neg (by omega)]; exact ht
    · simp only [if_neg a1]
      by_cases a2 : o ≥ n
      · simp only [if_pos a2]; rw [if_neg (by omega)]; exact ht
      · simp only [if_neg a2]
        by_cases a3 : lv > 7
        · rw [if_pos (by simpa using a3)] at hj
          rw [if_neg (by omega)]
          exact hj
        · rw [if_neg (by simpa using a3)] at hj
          rw [if_pos (by omega)]
          exact hj
theorem ev_check (n o lv d r iv h g rs w gp pe ag rm q : Int) (rv : Bool) : Ev (fun k => plan_Plan_Check.f k n o lv d r iv h g rs w gp pe ag rm q rv) (planCheck n o lv d r iv h g rs w gp pe ag rm q) := by
  simp only [plan_Plan_Check.f]
  have bad : ¬ (3 ≤ n ∧ n ≤ 16) → planCheck n o lv d r iv h g rs w gp pe ag rm q = 4 := by
    intro hb; unfold planCheck; rw [if_neg (by omega)]
  by_cases a1 : n < 3
  · simp only [if_pos a1]
    have hj := pc_j0 true n o lv d r iv h g rs w gp pe ag rm q rv (by simp)
    rw [if_pos rfl] at hj
    rw [bad (by omega)]; exact hj
  · simp only [if_neg a1]
    have hj := pc_j0 (decide (n > 16)) n o lv d r iv h g rs w gp pe ag rm q rv (fun h => by have := of_decide_eq_false h; omega)
    by_cases a2 : n > 16
    · rw [if_pos (by simpa using a2)] at hj
      rw [bad (by omega)]; exact hj
    · rw [if_neg (by simpa using a2)] at hj
      exact hj

end Go.Proofs.Ytapicoienpbdfaa.LPlanTells

/- What is wrong with a plan: the document's comes to the same plain words. -/
namespace Go.Proofs.Ytapicoienpbdfaa.LPlanTells
open Go.RowKit Go.Proofs.Ytapicoienpbdfaa.PPlanTells Go.Proofs.YtapicoienpbdfaaW.PrintWords Go.Proofs.YtapicoienpbdfaaW.PrintLast Go.Proofs.YtapicoienpbdfaaW.PrintMore Go.Proofs.Ytapicoienpbdfaa
set_option linter.unusedVariables false
set_option linter.unusedSimpArgs false

theorem rp_j4 (x : Bool) : Ev (fun k => carouselref16_Check.j4 k x) (if x = true then 4 else 0) := by
  refine Ev.step (f := fun k => carouselref16_Check.j4 (k + 1) x) (fun k => rfl) ?_
  simp only [carouselref16_Check.j4]
  refine Ev.congr (fun k => ?_) (Ev.now _)
  cases x <;> rfl
/-- Are the last m + 1 numbers as they should be? -/
def okFrom (l : List Int) : Nat → Bool
  | 0 => true
  | m + 1 => (decide (1 ≤ rd l ((7 - m : Nat) : Int)) && decide (rd l ((7 - m : Nat) : Int) ≤ if m = 0 then 1048577 else 1048576)) && okFrom l m
theorem rp_loop (l : List Int) (hl : l.length = 8) (n o lv d r iv h g rs w gp pe ag rm q : Int) (rv : Bool) (m : Nat) : m ≤ 8 → Ev (fun k => carouselref16_Check.l0 k l ((8 - m : Nat) : Int) n o lv d r iv h g rs w gp pe ag rm q rv) (if okFrom l m = true then plan3 rm q else 4) := by
  induction m with
  | zero =>
    intro _
    refine Ev.step (f := fun k => carouselref16_Check.l0 (k + 1) l ((8 - 0 : Nat) : Int) n o lv d r iv h g rs w gp pe ag rm q rv) (fun k => rfl) ?_
    simp only [carouselref16_Check.l0, if_neg (show ¬ ((8 - 0 : Nat) : Int) < (l.length : Int) from by omega), okFrom, if_true]
    by_cases a1 : rm < 1
    · simp only [if_pos a1]
      rw [show plan3 rm q = 4 from by unfold plan3; rw [if_neg (by omega)]]
      exact rp_j4 true
    · simp only [if_neg a1]
      by_cases a2 : rm > 1024
      · simp only [if_pos a2]
        rw [show plan3 rm q = 4 from by unfold plan3; rw [if_neg (by omega)]]
        exact rp_j4 true
      · simp only [if_neg a2]
        by_cases a3 : q < 1
        · simp only [if_pos a3]
          rw [show plan3 rm q = 4 from by unfold plan3; rw [if_neg (by omega)]]
          exact rp_j4 true
        · simp only [if_neg a3]
          have hj := rp_j4 (decide (q > 256))
          by_cases a4 : q > 256
          · rw [show plan3 rm q = 4 from by unfold plan3; rw [if_neg (by omega)]]
            rw [if_pos (by simpa using a4)] at hj
            exact hj
          · rw [show plan3 rm q = 0 from by unfold plan3; rw [if_pos (by omega)]]
            rw [if_neg (by simpa using a4)] at hj
            exact hj
  | succ m ih =>
    intro hm
    have hih := ih (by omega)
    have e : ((8 - (m + 1) : Nat) : Int) = ((7 - m : Nat) : Int) := by omega
    rw [e]
    have hj : ∀ b : Int, b = (if m = 0 then 1048577 else 1048576) → Ev (fun k => carouselref16_Check.j3 k l ((7 - m : Nat) : Int) b n o lv d r iv h g rs w gp pe ag rm q rv) (if okFrom l (m + 1) = true then plan3 rm q else 4) := by
      intro b hb
      refine Ev.step (f := fun k => carouselref16_Check.j3 (k + 1) l ((7 - m : Nat) : Int) b n o lv d r iv h g rs w gp pe ag rm q rv) (fun k => rfl) ?_
      simp only [carouselref16_Check.j3, if_pos (show (0 : Int) ≤ ((7 - m : Nat) : Int) from by omega), if_pos (show ((7 - m : Nat) : Int) < (l.length : Int) from by omega), okFrom, ← hb]
      generalize rd l ((7 - m : Nat) : Int) = x
      by_cases a1 : x < 1
      · simp only [if_pos a1, decide_eq_false (show ¬ 1 ≤ x from by omega), Bool.false_and, Bool.false_eq_true, if_false]
        exact Ev.now _
      · simp only [if_neg a1, decide_eq_true (show 1 ≤ x from by omega), Bool.true_and]
        by_cases a2 : x > b
        · simp only [if_pos a2, decide_eq_false (show ¬ x ≤ b from by omega), Bool.false_and, Bool.false_eq_true, if_false]
          exact Ev.now _
        · simp only [if_neg a2, decide_eq_true (show x ≤ b from by omega), Bool.true_and]
          rw [pl_wrap (by omega) (by omega), show ((7 - m : Nat) : Int) + 1 = ((8 - m : Nat) : Int) from by omega]
          exact hih
    refine Ev.step (f := fun k => carouselref16_Check.l0 (k + 1) l ((7 - m : Nat) : Int) n o lv d r iv h g rs w gp pe ag rm q rv) (fun k => rfl) ?_
    simp only [carouselref16_Check.l0, if_pos (show ((7 - m : Nat) : Int) < (l.length : Int) from by omega)]
    by_cases h7 : m = 0
    · simp only [if_pos (show ((7 - m : Nat) : Int) = 7 from by omega)]
      exact hj _ (by rw [if_pos h7]; rfl)
    · simp only [if_neg (show ¬ ((7 - m : Nat) : Int) = 7 from by omega)]
      exact hj _ (by rw [if_neg h7])
theorem last_ok (h : Int) (h0 : -9223372036854775808 ≤ h) (h1 : h ≤ 9223372036854775807) : (1 ≤ wrap64 (h + 1) ∧ wrap64 (h + 1) ≤ 1048577) ↔ (0 ≤ h ∧ h ≤ 1048576) := by
  unfold wrap64; omega
theorem rp_j1 (x : Bool) (n o lv d r iv h g rs w gp pe ag rm q : Int) (rv : Bool) (h0 : -9223372036854775808 ≤ h) (h1 : h ≤ 9223372036854775807) : Ev (fun k => carouselref16_Check.j1 k x n o lv d r iv h g rs w gp pe ag rm q rv) (if x = true then 5 else plan2 iv h g rs w gp pe ag rm q) := by
  have hl := rp_loop [iv, g, rs, w, gp, pe, ag, wrap64 (h + 1)] rfl n o lv d r iv h g rs w gp pe ag rm q rv 8 (Nat.le_refl _)
  refine Ev.step (f := fun k => carouselref16_Check.j1 (k + 1) x n o lv d r iv h g rs w gp pe ag rm q rv) (fun k => rfl) ?_
  simp only [carouselref16_Check.j1]
  cases x with
  | true => simp only [if_true]; exact Ev.now _
  | false =>
    simp only [Bool.false_eq_true, if_false]
    have e : okFrom [iv, g, rs, w, gp, pe, ag, wrap64 (h + 1)] 8 = true ↔ ([iv, g, rs, w, gp, pe, ag].all okLen) = true ∧ 0 ≤ h ∧ h ≤ 1048576 := by
      rw [← last_ok h h0 h1]
      simp [okFrom, rd, okLen, and_assoc]
    unfold plan2
    by_cases c : ([iv, g, rs, w, gp, pe, ag].all okLen) = true ∧ 0 ≤ h ∧ h ≤ 1048576
    · rw [if_pos c]; rw [if_pos (e.2 c)] at hl; exact hl
    · rw [if_neg c]; rw [if_neg (fun h => c (e.1 h))] at hl; exact hl
theorem rp_j0 (x : Bool) (n o lv d r iv h g rs w gp pe ag rm q : Int) (rv : Bool) (h0 : -9223372036854775808 ≤ h) (h1 : h ≤ 9223372036854775807) (hd : 0 ≤ d) (hr : 0 ≤ r) : Ev (fun k => carouselref16_Check.j0 k x n o lv d r iv h g rs w gp pe ag rm q rv) (if x = true then 4 else plan1 d r iv h g rs w gp pe ag rm q) := by
  have ht := rp_j1 true n o lv d r iv h g rs w gp pe ag rm q rv h0 h1
  rw [if_pos rfl] at ht
  have hj := rp_j1 (d == r) n o lv d r iv h g rs w gp pe ag rm q rv h0 h1
  have bad : ¬ (1 ≤ d ∧ d ≤ 4094 ∧ 1 ≤ r ∧ r ≤ 4094) → plan1 d r iv h g rs w gp pe ag rm q = 5 := by
    intro hb; unfold plan1; rw [if_neg (fun h => hb ⟨h.1, h.2.1, h.2.2.1, h.2.2.2.1⟩)]
  refine Ev.step (f := fun k => carouselref16_Check.j0 (k + 1) x n o lv d r iv h g rs w gp pe ag rm q rv) (fun k => rfl) ?_
  simp only [carouselref16_Check.j0]
  cases x with
  | true => simp only [if_true]; exact Ev.now _
  | false =>
    simp only [Bool.false_eq_true, if_false]
    by_cases a1 : d = 0
    · simp only [if_pos a1]; rw [bad (by omega)]; exact ht
    · simp only [if_neg a1]
      by_cases a2 : d > 4094
      · simp only [if_pos a2]; rw [bad (by omega)]; exact ht
      · simp only [if_neg a2]
        by_cases a3 : r = 0
        · simp only [if_pos a3]; rw [bad (by omega)]; exact ht
        · simp only [if_neg a3]
          by_cases a4 : r > 4094
          · simp only [if_pos a4]; rw [bad (by omega)]; exact ht
          · simp only [if_neg a4]
            unfold plan1
            by_cases a5 : d = r
            · rw [if_pos (by simpa using a5)] at hj
              rw [if_neg (fun h => h.2.2.2.2 a5)]
              exact hj
            · rw [if_neg (by simpa using a5)] at hj
              rw [if_pos ⟨by omega, by omega, by omega, by omega, a5⟩]
              exact hj
theorem ev_rcheck (n o lv d r iv h g rs w gp pe ag rm q : Int) (rv : Bool) (hn0 : -9223372036854775808 ≤ n) (hn1 : n ≤ 9223372036854775807) (h0 : -9223372036854775808 ≤ h) (h1 : h ≤ 9223372036854775807) (hd : 0 ≤ d) (hr : 0 ≤ r) : Ev (fun k => carouselref16_Check.f k n o lv d r iv h g rs w gp pe ag rm q rv) (planCheck n o lv d r iv h g rs w gp pe ag rm q) := by
  have ht := rp_j0 true n o lv d r iv h g rs w gp pe ag rm q rv h0 h1 hd hr
  rw [if_pos rfl] at ht
  have hj := rp_j0 (decide (lv > 7)) n o lv d r iv h g rs w gp pe ag rm q rv h0 h1 hd hr
  have bad : ¬ (3 ≤ n ∧ n ≤ 16 ∧ 0 ≤ o ∧ o < n) → planCheck n o lv d r iv h g rs w gp pe ag rm q = 4 := by
    intro hb; unfold planCheck; rw [if_neg (fun h => hb ⟨h.1, h.2.1, h.2.2.1, h.2.2.2.1⟩)]
  simp only [carouselref16_Check.f]
  by_cases a1 : n < 3
  · simp only [if_pos a1]; rw [bad (by omega)]; exact ht
  · simp only [if_neg a1]
    by_cases a2 : n > 16
    · simp only [if_pos a2]; rw [bad (by omega)]; exact ht
    · simp only [if_neg a2]
      by_cases a3 : o < 0
      · simp only [if_pos a3]; rw [bad (by omega)]; exact ht
      · simp only [if_neg a3]
        rw [pl_wrap (n := n - 1) (by omega) (by omega)]
        by_cases a4 : o > n - 1
        · simp only [if_pos a4]; rw [bad (by omega)]; exact ht
        · simp only [if_neg a4]
          unfold planCheck
          by_cases a5 : lv > 7
          · rw [if_pos (by simpa using a5)] at hj
            rw [if_neg (by omega)]
            exact hj
          · rw [if_neg (by simpa using a5)] at hj
            rw [if_pos (by omega)]
            exact hj

end Go.Proofs.Ytapicoienpbdfaa.LPlanTells

/- Plain words on strings of bytes as lists of numbers. No program in sight. -/
namespace Go.Proofs.Ytapicoienpbdfaa.Gv
open Go.RowKit Go.Proofs.YtapicoienpbdfaaW.PrintWords
set_option linter.unusedVariables false

theorem bytesOf_inj {s t : ByteArray} (h : bytesOf s = bytesOf t) : s = t := by rw [← strOfNums_bytesOf s, ← strOfNums_bytesOf t, h]
theorem bytesOf_str (l : List Int) (h : ∀ b ∈ l, 0 ≤ b ∧ b ≤ 255) : bytesOf (strOfNums l) = l := by
  unfold bytesOf strOfNums
  simp only [List.map_map]
  have : ∀ b ∈ l, ((fun b : UInt8 => (b.toNat : Int)) ∘ fun n : Int => UInt8.ofNat n.toNat) b = id b := by
    intro b hb
    have := h b hb
    simp only [Function.comp, id]
    have e : (UInt8.ofNat b.toNat).toNat = b.toNat := by
      rw [UInt8.toNat_ofNat']
      omega
    rw [e]; omega
  rw [List.map_congr_left this, List.map_id]
theorem bytesOf_append (s t : ByteArray) : bytesOf (s ++ t) = bytesOf s ++ bytesOf t := by
  unfold bytesOf
  simp
theorem bytesOf_empty : bytesOf (⟨#[]⟩ : ByteArray) = [] := rfl
theorem bytesOf_extract (s : ByteArray) (a b : Nat) : bytesOf (s.extract a b) = ((bytesOf s).take b).drop a := by
  unfold bytesOf
  rw [← List.map_take, ← List.map_drop]
  congr 1
  simp [ByteArray.extract, ByteArray.copySlice, List.drop_take]
theorem bt_get (s : ByteArray) (i : Int) : bt s i = (bytesOf s).getD i.toNat 0 := (rd_bytesOf s i).symm
/-- A string's first bytes by name. -/
theorem bytesOf_head (s : ByteArray) (m : Nat) (h : m ≤ s.size) : bytesOf s = ((List.range m).map fun i => bt s (i : Nat)) ++ (bytesOf s).drop m := by
  have e : (List.range m).map (fun i => bt s ((i : Nat) : Int)) = (bytesOf s).take m := by
    apply List.ext_getElem
    · simp [bytesOf_length]; omega
    · intro i h1 h2
      have hi : i < (bytesOf s).length := by rw [bytesOf_length]; simp at h1; omega
      simp only [List.getElem_map, List.getElem_range, List.getElem_take]
      rw [bt_get, Int.toNat_natCast, List.getD_eq_getElem?_getD, List.getElem?_eq_getElem hi]
      rfl
  rw [e, List.take_append_drop]
theorem sBits_cons {s : ByteArray} {l : List Int} (h : bytesOf s = l) : sBits s = l.flatMap fun b => bitsOf 8 b := by unfold sBits; rw [h]
theorem flat_cons (b : Int) (l : List Int) : ((b :: l).flatMap fun b => bitsOf 8 b) = bitsOf 8 b ++ l.flatMap fun b => bitsOf 8 b := rfl
theorem vals_cons (w : Nat) (v : Int) (rest : List Int) (ws : List Int) : vals (bitsOf w v ++ rest) ((w : Int) :: ws) = v % 2 ^ w :: vals rest ws := by
  simp only [vals, Int.toNat_natCast]
  rw [List.take_append_of_le_length (by rw [bitsOf_length]; exact Nat.le_refl _), List.take_of_length_le (by rw [bitsOf_length]; exact Nat.le_refl _), valOf_bitsOf, List.drop_append_of_le_length (by rw [bitsOf_length]; exact Nat.le_refl _), List.drop_of_length_le (by rw [bitsOf_length]; exact Nat.le_refl _), List.nil_append]
theorem vals_none (l : List Int) : vals l [] = [] := rfl
/-- Two numbers behind each other. -/
theorem bitsOf_join (m n : Nat) (a b : Int) (h0 : 0 ≤ b) (h1 : b < 2 ^ n) : bitsOf m a ++ bitsOf n b = bitsOf (m + n) (a * 2 ^ n + b) := by
  have hp : (0 : Int) < 2 ^ n := Int.pow_pos (by decide)
  rw [bitsOf_add]
  have e1 : (a * 2 ^ n + b) / 2 ^ n = a := by
    rw [Int.add_comm, Int.add_mul_ediv_right _ _ (Int.ne_of_gt hp), Int.ediv_eq_zero_of_lt h0 h1]; omega
  have e2 : bitsOf n (a * 2 ^ n + b) = bitsOf n b := by
    rw [← bitsOf_mod n (a * 2 ^ n + b), Int.add_comm, Int.add_mul_emod_self_right, bitsOf_mod]
  rw [e1, e2]
theorem bitsOf_8 (v : Int) (w : Nat) : bitsOf (w + 8) v = bitsOf w (v / 256) ++ bitsOf 8 v := by
  rw [bitsOf_add]; rfl
theorem packB_last (b : Int) : packB (bitsOf 8 b) = [b % 256] := by
  have := packB_byte b []
  rwa [List.append_nil] at this
theorem strOfNums_append (l m : List Int) : strOfNums (l ++ m) = strOfNums l ++ strOfNums m := by
  unfold strOfNums
  apply ByteArray.ext
  simp
theorem size_bytesOf (s : ByteArray) : s.size = (bytesOf s).length := (bytesOf_length s).symm

end Go.Proofs.Ytapicoienpbdfaa.Gv

/- Name of layer 6, the program's: it comes to a plain word. -/
namespace Go.Proofs.Ytapicoienpbdfaa.LPlanTells
open Go.RowKit Go.Proofs.Ytapicoienpbdfaa.PPlanTells Go.Proofs.YtapicoienpbdfaaW.PrintWords Go.Proofs.YtapicoienpbdfaaW.PrintLast Go.Proofs.YtapicoienpbdfaaW.PrintMore Go.Proofs.Ytapicoienpbdfaa
set_option linter.unusedVariables false
set_option linter.unusedSimpArgs false

theorem cc_wrap {n : Int} (h0 : -9223372036854775808 ≤ n) (h1 : n ≤ 9223372036854775807) : wrap64 n = n := by unfold wrap64; omega
theorem rep_list (n : Nat) : Lib.repeatL [(0 : UInt8)] n = List.replicate n 0 := by
  induction n with
  | zero => rfl
  | succ n ih =>
    simp only [Lib.repeatL, List.replicate_succ, List.flatten_cons] at *
    rw [ih]; rfl
theorem rep_zero (n : Int) (h0 : 0 ≤ n) (h1 : n ≤ 100000) : strings_Repeat.f (⟨#[0]⟩ : ByteArray) n = some (strOfNums (List.replicate n.toNat 0)) := by
  unfold strings_Repeat.f
  rw [if_pos ⟨h0, h1, by decide⟩, show (⟨#[0]⟩ : ByteArray).data.toList = [0] from rfl, rep_list]
  unfold strOfNums
  simp
/-- A text of 48 bytes. -/
def nameOf (s : ByteArray) : ByteArray := if s.size > 48 then s.extract 0 48 else s ++ strOfNums (List.replicate (48 - s.size) 0)
theorem name_own (s : ByteArray) : ccm_Name.f s = some (nameOf s) := by
  unfold ccm_Name.f nameOf
  by_cases h : s.size > 48
  · rw [if_pos (by omega), if_pos (by decide), if_pos (by omega), if_pos h]
  · rw [if_neg (by omega), if_neg h, cc_wrap (by omega) (by omega), rep_zero _ (by omega) (by omega), Option.bind_some, strOfNums_size, List.length_replicate, if_pos (by omega), show (48 - (s.size : Int)).toNat = 48 - s.size from by omega]
theorem name_bytes (s : ByteArray) : bytesOf (nameOf s) = (bytesOf s).take 48 ++ List.replicate (48 - s.size) 0 := by
  have hl : (bytesOf s).length = s.size := bytesOf_length s
  unfold nameOf
  by_cases h : s.size > 48
  · rw [if_pos h, Gv.bytesOf_extract, List.drop_zero, show 48 - s.size = 0 from by omega]; simp
  · rw [if_neg h, Gv.bytesOf_append, List.take_of_length_le (by omega), Gv.bytesOf_str _ (by intro x hx; have := (List.mem_replicate.1 hx).2; omega)]

end Go.Proofs.Ytapicoienpbdfaa.LPlanTells

namespace Go.Proofs.Ytapicoienpbdfaa.Pure
open Go.RowKit Go.Proofs.Ytapicoienpbdfaa.PPlanTells Go.Proofs.YtapicoienpbdfaaW.PrintWords Go.Proofs.YtapicoienpbdfaaW.PrintLast Go.Proofs.YtapicoienpbdfaaW.PrintMore Go.Proofs.Ytapicoienpbdfaa Go.Proofs.Ytapicoienpbdfaa.LPlanTells
set_option linter.unusedVariables false
set_option linter.unusedSimpArgs false

theorem pt_awake : Ev (fun k => carousellaw16_Awake.f k) true :=
  Ev.of carousellaw16_Awake.mono (k := 60) (by decide +kernel)
theorem pt_u16 {a : Int} (h : (Lit.int .u16 a).wf = true) : 0 ≤ a ∧ a ≤ 65535 := by
  have h' : IntKind.u16.min ≤ a ∧ a ≤ IntKind.u16.max := by simpa [Lit.wf] using h
  exact h'
theorem pt_i64 {a : Int} (h : (Lit.int .i64 a).wf = true) : -9223372036854775808 ≤ a ∧ a ≤ 9223372036854775807 := by
  have h' : IntKind.i64.min ≤ a ∧ a ≤ IntKind.i64.max := by simpa [Lit.wf] using h
  exact h'
theorem check_zero {n o lv d r iv h g rs w gp pe ag rm q : Int} (hc : planCheck n o lv d r iv h g rs w gp pe ag rm q = 0) : 3 ≤ n ∧ n ≤ 16 ∧ 0 ≤ o ∧ o < n := by
  unfold planCheck at hc
  by_cases c : 3 ≤ n ∧ n ≤ 16 ∧ 0 ≤ o ∧ o < n ∧ lv ≤ 7
  · exact ⟨c.1, c.2.1, c.2.2.1, c.2.2.2.1⟩
  · rw [if_neg c] at hc; omega
/-- Has a plan a node? -/
def hasOf (c n i : Int) : Bool := decide (c = 0 ∧ 0 ≤ i ∧ i < n)
theorem ev_has (n o lv d r iv h g rs w gp pe ag rm q : Int) (rv : Bool) (i : Int) : Ev (fun k => plan_Plan_has.f k n o lv d r iv h g rs w gp pe ag rm q rv i) (hasOf (planCheck n o lv d r iv h g rs w gp pe ag rm q) n i) := by
  simp only [plan_Plan_has.f]
  refine Ev.bind (ev_check n o lv d r iv h g rs w gp pe ag rm q rv) ?_
  unfold hasOf
  generalize planCheck n o lv d r iv h g rs w gp pe ag rm q = c
  refine Ev.congr (fun k => ?_) (Ev.now _)
  by_cases h1 : c = 0
  · rw [if_pos h1]
    by_cases h2 : i ≥ 0
    · rw [if_pos h2]
      have : (c = 0 ∧ 0 ≤ i ∧ i < n) = (i < n) := by apply propext; omega
      simp only [this]
    · rw [if_neg h2, decide_eq_false (by omega)]
  · rw [if_neg h1, decide_eq_false (fun h => h1 h.1)]
theorem ev_rhas (n o lv d r iv h g rs w gp pe ag rm q : Int) (rv : Bool) (i : Int) (hn0 : -9223372036854775808 ≤ n) (hn1 : n ≤ 9223372036854775807) (hh0 : -9223372036854775808 ≤ h) (hh1 : h ≤ 9223372036854775807) (hd : 0 ≤ d) (hr : 0 ≤ r) : Ev (fun k => carouselref16_has.f k n o lv d r iv h g rs w gp pe ag rm q rv i) (hasOf (planCheck n o lv d r iv h g rs w gp pe ag rm q) n i) := by
  simp only [carouselref16_has.f]
  refine Ev.bind (ev_rcheck n o lv d r iv h g rs w gp pe ag rm q rv hn0 hn1 hh0 hh1 hd hr) ?_
  unfold hasOf
  generalize planCheck n o lv d r iv h g rs w gp pe ag rm q = c
  refine Ev.congr (fun k => ?_) (Ev.now _)
  by_cases h1 : c = 0
  · rw [if_pos h1]
    by_cases h2 : i ≥ 0
    · rw [if_pos h2]
      have : (c = 0 ∧ 0 ≤ i ∧ i < n) = (i < n) := by apply propext; omega
      simp only [this]
    · rw [if_neg h2, decide_eq_false (by omega)]
  · rw [if_neg h1, decide_eq_false (fun h => h1 h.1)]
def farOf (has : Bool) (n i p : Int) : Int × Int := if has = true then (if p = 1 then ((i + 1) % n, 0) else if p = 0 then ((i + n - 1) % n, 1) else (-1, -1)) else (-1, -1)
def roleOf (has : Bool) (n o i : Int) : Int × Int := if has = true then (if i = o then (1, 1) else if i = (o + 1) % n then (2, 0) else (0, -1)) else (0, -1)
def endOf (has : Bool) (i p : Int) : Int := if has = true ∧ (p = 0 ∨ p = 1) then 2 * i + p + 1 else 0
theorem has_facts {c n o i : Int} (h : hasOf c n i = true) : c = 0 ∧ 0 ≤ i ∧ i < n := of_decide_eq_true h
theorem ev_far (n o lv d r iv h g rs w gp pe ag rm q : Int) (rv : Bool) (i p : Int) : Ev (fun k => plan_Plan_Far.f k n o lv d r iv h g rs w gp pe ag rm q rv i p) (farOf (hasOf (planCheck n o lv d r iv h g rs w gp pe ag rm q) n i) n i p) := by
  simp only [plan_Plan_Far.f]
  refine Ev.bind (ev_has n o lv d r iv h g rs w gp pe ag rm q rv i) ?_
  unfold farOf
  refine Ev.congr (fun k => ?_) (Ev.now _)
  cases hh : hasOf (planCheck n o lv d r iv h g rs w gp pe ag rm q) n i with
  | false => simp
  | true =>
    have hf := has_facts (o := o) hh
    have hz := check_zero hf.1
    simp only [if_true, if_neg (show ¬ n = 0 from by omega)]
    rw [pl_wrap (n := i + 1) (by omega) (by omega), pl_wrap (n := i + n) (by omega) (by omega), pl_wrap (n := i + n - 1) (by omega) (by omega), Int.tmod_eq_emod_of_nonneg (by omega), Int.tmod_eq_emod_of_nonneg (by omega)]
    by_cases h1 : p = 1
    · rw [if_pos h1, if_pos h1]
    · rw [if_neg h1, if_neg h1]
      by_cases h0 : p = 0
      · rw [if_pos h0, if_pos h0]
      · rw [if_neg h0, if_neg h0]
theorem mod_next (n i : Int) (h0 : 0 ≤ i) (h1 : i < n) : (i + 1) % n = if i = n - 1 then 0 else i + 1 := by
  by_cases h : i = n - 1
  · rw [if_pos h, show i + 1 = n from by omega, Int.emod_self]
  · rw [if_neg h, Int.emod_eq_of_lt (by omega) (by omega)]
theorem mod_prev (n i : Int) (h0 : 0 ≤ i) (h1 : i < n) : (i + n - 1) % n = if i = 0 then n - 1 else i - 1 := by
  by_cases h : i = 0
  · rw [if_pos h, h, show 0 + n - 1 = n - 1 from by omega, Int.emod_eq_of_lt (by omega) (by omega)]
  · rw [if_neg h, show i + n - 1 = (i - 1) + n from by omega, Int.add_emod_right, Int.emod_eq_of_lt (by omega) (by omega)]
theorem rfar_j0 (n o lv d r iv h g rs w gp pe ag rm q : Int) (rv : Bool) (i p : Int) (x : Bool) (hx : x = false → (p = 0 ∨ p = 1) ∧ 0 ≤ i ∧ i < n ∧ n ≤ 16) :
    Ev (fun k => carouselref16_Far.j0 k i p x n o lv d r iv h g rs w gp pe ag rm q rv) (if x = true then (-1, -1) else if p = 1 then ((i + 1) % n, 0) else ((i + n - 1) % n, 1)) := by
  refine Ev.step (f := fun k => carouselref16_Far.j0 (k + 1) i p x n o lv d r iv h g rs w gp pe ag rm q rv) (fun k => rfl) ?_
  refine Ev.congr (fun k => ?_) (Ev.now _)
  simp only [carouselref16_Far.j0]
  cases x with
  | true => simp
  | false =>
    have hq := hx rfl
    simp only [Bool.false_eq_true, if_false]
    rw [mod_next n i hq.2.1 hq.2.2.1, mod_prev n i hq.2.1 hq.2.2.1, pl_wrap (n := n - 1) (by omega) (by omega), pl_wrap (n := i + 1) (by omega) (by omega), pl_wrap (n := i - 1) (by omega) (by omega)]
    by_cases h1 : p = 1
    · rw [if_pos h1, if_pos h1]
      by_cases h2 : i = n - 1
      · rw [if_pos h2, if_pos h2]
      · rw [if_neg h2, if_neg h2]
    · rw [if_neg h1, if_neg h1]
      by_cases h2 : i = 0
      · rw [if_pos h2, if_pos h2]
      · rw [if_neg h2, if_neg h2]
theorem ev_rfar (n o lv d r iv h g rs w gp pe ag rm q : Int) (rv : Bool) (i p : Int) (hn0 : -9223372036854775808 ≤ n) (hn1 : n ≤ 9223372036854775807) (hh0 : -9223372036854775808 ≤ h) (hh1 : h ≤ 9223372036854775807) (hd : 0 ≤ d) (hr : 0 ≤ r) : Ev (fun k => carouselref16_Far.f k n o lv d r iv h g rs w gp pe ag rm q rv i p) (farOf (hasOf (planCheck n o lv d r iv h g rs w gp pe ag rm q) n i) n i p) := by
  simp only [carouselref16_Far.f]
  refine Ev.bind (ev_rhas n o lv d r iv h g rs w gp pe ag rm q rv i hn0 hn1 hh0 hh1 hd hr) ?_
  have ht := rfar_j0 n o lv d r iv h g rs w gp pe ag rm q rv i p true (by simp)
  rw [if_pos rfl] at ht
  unfold farOf
  cases hh : hasOf (planCheck n o lv d r iv h g rs w gp pe ag rm q) n i with
  | false => simp only [Bool.false_eq_true, if_false]; exact ht
  | true =>
    have hf := has_facts (o := o) hh
    have hz := check_zero hf.1
    simp only [if_true]
    by_cases h1 : p < 0
    · simp only [if_pos h1]
      rw [if_neg (by omega), if_neg (by omega)]
      exact ht
    · simp only [if_neg h1]
      by_cases h2 : p > 1
      · rw [decide_eq_true h2, if_neg (by omega), if_neg (by omega)]
        exact ht
      · have hj := rfar_j0 n o lv d r iv h g rs w gp pe ag rm q rv i p false (fun _ => ⟨by omega, hf.2.1, hf.2.2, by omega⟩)
        rw [if_neg (by simp)] at hj
        rw [decide_eq_false h2]
        by_cases h3 : p = 1
        · rw [if_pos h3] at hj ⊢; exact hj
        · rw [if_neg h3] at hj ⊢
          rw [if_pos (show p = 0 from by omega)]
          exact hj
theorem ev_role (n o lv d r iv h g rs w gp pe ag rm q : Int) (rv : Bool) (i : Int) : Ev (fun k => plan_Plan_Role.f k n o lv d r iv h g rs w gp pe ag rm q rv i) (roleOf (hasOf (planCheck n o lv d r iv h g rs w gp pe ag rm q) n i) n o i) := by
  simp only [plan_Plan_Role.f]
  refine Ev.bind (ev_has n o lv d r iv h g rs w gp pe ag rm q rv i) ?_
  unfold roleOf
  refine Ev.congr (fun k => ?_) (Ev.now _)
  cases hh : hasOf (planCheck n o lv d r iv h g rs w gp pe ag rm q) n i with
  | false => simp
  | true =>
    have hf := has_facts (o := o) hh
    have hz := check_zero hf.1
    simp only [if_true, if_neg (show ¬ n = 0 from by omega)]
    rw [pl_wrap (n := o + 1) (by omega) (by omega), Int.tmod_eq_emod_of_nonneg (by omega)]
    by_cases h1 : i = o
    · rw [if_pos h1, if_pos h1]
    · rw [if_neg h1, if_neg h1]
      by_cases h2 : i = (o + 1) % n
      · rw [if_pos h2, if_pos h2]
      · rw [if_neg h2, if_neg h2]
theorem rrole_j0 (n o lv d r iv h g rs w gp pe ag rm q : Int) (rv : Bool) (i : Int) (x : Bool) (hn0 : -9223372036854775808 ≤ n) (hn1 : n ≤ 9223372036854775807) (hh0 : -9223372036854775808 ≤ h) (hh1 : h ≤ 9223372036854775807) (hd : 0 ≤ d) (hr : 0 ≤ r) : Ev (fun k => carouselref16_Role.j0 k i x n o lv d r iv h g rs w gp pe ag rm q rv) (if x = true then (1, 1) else if hasOf (planCheck n o lv d r iv h g rs w gp pe ag rm q) n i = true then (if i = (o + 1) % n then (2, 0) else (0, -1)) else (0, -1)) := by
  refine Ev.step (f := fun k => carouselref16_Role.j0 (k + 1) i x n o lv d r iv h g rs w gp pe ag rm q rv) (fun k => rfl) ?_
  simp only [carouselref16_Role.j0]
  cases x with
  | true => simp only [if_true]; exact Ev.now _
  | false =>
    simp only [Bool.false_eq_true, if_false]
    refine Ev.bind (ev_rfar n o lv d r iv h g rs w gp pe ag rm q rv o 1 hn0 hn1 hh0 hh1 hd hr) ?_
    refine Ev.bind (ev_rhas n o lv d r iv h g rs w gp pe ag rm q rv i hn0 hn1 hh0 hh1 hd hr) ?_
    refine Ev.congr (fun k => ?_) (Ev.now _)
    cases hh : hasOf (planCheck n o lv d r iv h g rs w gp pe ag rm q) n i with
    | false => simp
    | true =>
      have hf := has_facts (o := o) hh
      have hz := check_zero hf.1
      have ho : hasOf (planCheck n o lv d r iv h g rs w gp pe ag rm q) n o = true := decide_eq_true ⟨hf.1, hz.2.2.1, hz.2.2.2⟩
      have e : (farOf (hasOf (planCheck n o lv d r iv h g rs w gp pe ag rm q) n o) n o 1).1 = (o + 1) % n := by
        unfold farOf; rw [if_pos ho, if_pos rfl]
      rw [if_pos rfl, if_pos rfl, e]
      by_cases h2 : i = (o + 1) % n
      · rw [if_pos h2, if_pos h2]
      · rw [if_neg h2, if_neg h2]
theorem ev_rrole (n o lv d r iv h g rs w gp pe ag rm q : Int) (rv : Bool) (i : Int) (hn0 : -9223372036854775808 ≤ n) (hn1 : n ≤ 9223372036854775807) (hh0 : -9223372036854775808 ≤ h) (hh1 : h ≤ 9223372036854775807) (hd : 0 ≤ d) (hr : 0 ≤ r) : Ev (fun k => carouselref16_Role.f k n o lv d r iv h g rs w gp pe ag rm q rv i) (roleOf (hasOf (planCheck n o lv d r iv h g rs w gp pe ag rm q) n i) n o i) := by
  simp only [carouselref16_Role.f]
  refine Ev.bind (ev_rhas n o lv d r iv h g rs w gp pe ag rm q rv i hn0 hn1 hh0 hh1 hd hr) ?_
  unfold roleOf
  cases hh : hasOf (planCheck n o lv d r iv h g rs w gp pe ag rm q) n i with
  | false =>
    have hj := rrole_j0 n o lv d r iv h g rs w gp pe ag rm q rv i false hn0 hn1 hh0 hh1 hd hr
    rw [if_neg (by simp), hh, if_neg (by simp)] at hj
    simp only [Bool.false_eq_true, if_false]
    exact hj
  | true =>
    have hj := rrole_j0 n o lv d r iv h g rs w gp pe ag rm q rv i (i == o) hn0 hn1 hh0 hh1 hd hr
    rw [hh, if_pos (show (true : Bool) = true from rfl)] at hj
    simp only [if_true]
    by_cases h1 : i = o
    · rw [if_pos (by simpa using h1)] at hj
      rw [if_pos h1]
      exact hj
    · rw [if_neg (by simpa using h1)] at hj
      rw [if_neg h1]
      exact hj
theorem ev_endj (i p : Int) (x : Bool) : Ev (fun k => plan_Plan_End.j0 k i p x) (if x = true then 0 else IntKind.u16.wrap (wrap64 ((wrap64 ((wrap64 (2 * i)) + p)) + 1))) := by
  refine Ev.step (f := fun k => plan_Plan_End.j0 (k + 1) i p x) (fun k => rfl) ?_
  simp only [plan_Plan_End.j0]
  cases x
  · exact Ev.now _
  · exact Ev.now _
theorem ev_rendj (i p : Int) (x : Bool) : Ev (fun k => carouselref16_End.j0 k i p x) (if x = true then 0 else IntKind.u16.wrap (wrap64 ((wrap64 (1 + (wrap64 (i * 2)))) + p))) := by
  refine Ev.step (f := fun k => carouselref16_End.j0 (k + 1) i p x) (fun k => rfl) ?_
  simp only [carouselref16_End.j0]
  cases x
  · exact Ev.now _
  · exact Ev.now _
theorem ev_end (n o lv d r iv h g rs w gp pe ag rm q : Int) (rv : Bool) (i p : Int) : Ev (fun k => plan_Plan_End.f k n o lv d r iv h g rs w gp pe ag rm q rv i p) (endOf (hasOf (planCheck n o lv d r iv h g rs w gp pe ag rm q) n i) i p) := by
  simp only [plan_Plan_End.f]
  refine Ev.bind (ev_has n o lv d r iv h g rs w gp pe ag rm q rv i) ?_
  unfold endOf
  cases hh : hasOf (planCheck n o lv d r iv h g rs w gp pe ag rm q) n i with
  | false => simpa using ev_endj i p true
  | true =>
    have hf := has_facts (o := o) hh
    have hz := check_zero hf.1
    simp only [if_true, true_and]
    by_cases h0 : p = 0
    · have e : IntKind.u16.wrap (wrap64 ((wrap64 ((wrap64 (2 * i)) + p)) + 1)) = 2 * i + p + 1 := by
        rw [pl_wrap (n := 2 * i) (by omega) (by omega), pl_wrap (n := 2 * i + p) (by omega) (by omega), pl_wrap (n := 2 * i + p + 1) (by omega) (by omega)]
        show (2 * i + p + 1) % 65536 = _
        omega
      have hj := ev_endj i p false
      simp only [Bool.false_eq_true, if_false, e] at hj
      simpa [h0] using hj
    · by_cases h1 : p = 1
      · have e : IntKind.u16.wrap (wrap64 ((wrap64 ((wrap64 (2 * i)) + p)) + 1)) = 2 * i + p + 1 := by
          rw [pl_wrap (n := 2 * i) (by omega) (by omega), pl_wrap (n := 2 * i + p) (by omega) (by omega), pl_wrap (n := 2 * i + p + 1) (by omega) (by omega)]
          show (2 * i + p + 1) % 65536 = _
          omega
        have hj := ev_endj i p false
        simp only [Bool.false_eq_true, if_false, e] at hj
        simpa [h0, h1] using hj
      · have hb : (p != 1) = true := by simpa using h1
        simpa [h0, h1, hb] using ev_endj i p true
theorem ev_rend (n o lv d r iv h g rs w gp pe ag rm q : Int) (rv : Bool) (i p : Int) (hn0 : -9223372036854775808 ≤ n) (hn1 : n ≤ 9223372036854775807) (hh0 : -9223372036854775808 ≤ h) (hh1 : h ≤ 9223372036854775807) (hd : 0 ≤ d) (hr : 0 ≤ r) : Ev (fun k => carouselref16_End.f k n o lv d r iv h g rs w gp pe ag rm q rv i p) (endOf (hasOf (planCheck n o lv d r iv h g rs w gp pe ag rm q) n i) i p) := by
  simp only [carouselref16_End.f]
  refine Ev.bind (ev_rhas n o lv d r iv h g rs w gp pe ag rm q rv i hn0 hn1 hh0 hh1 hd hr) ?_
  unfold endOf
  cases hh : hasOf (planCheck n o lv d r iv h g rs w gp pe ag rm q) n i with
  | false => simpa using ev_rendj i p true
  | true =>
    have hf := has_facts (o := o) hh
    have hz := check_zero hf.1
    simp only [if_true, true_and]
    by_cases hp : p = 0 ∨ p = 1
    · have e : IntKind.u16.wrap (wrap64 ((wrap64 (1 + (wrap64 (i * 2)))) + p)) = 2 * i + p + 1 := by
        rw [pl_wrap (n := i * 2) (by omega) (by omega), pl_wrap (n := 1 + i * 2) (by omega) (by omega), pl_wrap (n := 1 + i * 2 + p) (by omega) (by omega)]
        show (1 + i * 2 + p) % 65536 = _
        omega
      have hj := ev_rendj i p false
      simp only [Bool.false_eq_true, if_false, e] at hj
      rcases hp with rfl | rfl
      · simpa using hj
      · simpa using hj
    · have h0 : ¬ p = 0 := fun h => hp (Or.inl h)
      have h1 : ¬ p = 1 := fun h => hp (Or.inr h)
      rw [if_neg hp]
      have hj := ev_rendj i p true
      simp only [if_true] at hj
      by_cases hl : p < 0
      · simpa [hl, h0, h1] using hj
      · have hg : p > 1 := by omega
        simpa [hl, hg, h0, h1] using hj
theorem grp_eq : nameOf (⟨#[99, 97, 114, 111, 117, 115, 101, 108]⟩ : ByteArray) = (⟨#[99, 97, 114, 111, 117, 115, 101, 108]⟩ : ByteArray) ++ strOfNums (List.replicate 40 0) := by
  unfold nameOf
  rw [if_neg (by decide)]
  rfl
theorem rgroup : carouselref16_Group.f = some ((⟨#[99, 97, 114, 111, 117, 115, 101, 108]⟩ : ByteArray) ++ strOfNums (List.replicate 40 0)) := by
  unfold carouselref16_Group.f
  rw [if_pos (by decide), Option.bind_some, strOfNums_size, List.length_replicate, if_pos (by decide)]

theorem PlanTells : carousellaw16_PlanTells.Pure := by
  intro n o lv d r iv h g rs w gp pe ag rm q rv i p w0 w1 w2 w3 w4 w5 w6 _ _ _ _ _ _ _ _ w15 w16
  have hn := pt_i64 w0; have hd := pt_u16 w3; have hr := pt_u16 w4; have hh := pt_i64 w6
  have hgo : Ev (fun k => carousellaw16_PlanTells.f k n o lv d r iv h g rs w gp pe ag rm q rv i p) true := by
    simp only [carousellaw16_PlanTells.f, carousellaw16_Of.f, Option.bind_some]
    refine Ev.bind (ev_role n o lv d r iv h g rs w gp pe ag rm q rv i) ?_
    refine Ev.bind (ev_rrole n o lv d r iv h g rs w gp pe ag rm q rv i hn.1 hn.2 hh.1 hh.2 hd.1 hr.1) ?_
    refine Ev.bind (ev_far n o lv d r iv h g rs w gp pe ag rm q rv i p) ?_
    refine Ev.bind (ev_rfar n o lv d r iv h g rs w gp pe ag rm q rv i p hn.1 hn.2 hh.1 hh.2 hd.1 hr.1) ?_
    refine Ev.bind pt_awake ?_
    simp only [if_true]
    have node : Ev (fun k => plan_Plan_Node.f k n o lv d r iv h g rs w gp pe ag rm q rv i) (if hasOf (planCheck n o lv d r iv h g rs w gp pe ag rm q) n i = true then IntKind.u64.wrap (2199023255553 + (IntKind.u64.wrap i)) else 0) := by
      simp only [plan_Plan_Node.f]
      refine Ev.bind (ev_has n o lv d r iv h g rs w gp pe ag rm q rv i) (Ev.congr (fun k => ?_) (Ev.now _))
      cases hasOf (planCheck n o lv d r iv h g rs w gp pe ag rm q) n i <;> simp
    have rnode : Ev (fun k => carouselref16_Node.f k n o lv d r iv h g rs w gp pe ag rm q rv i) (if hasOf (planCheck n o lv d r iv h g rs w gp pe ag rm q) n i = true then IntKind.u64.wrap (2199023255553 + (IntKind.u64.wrap i)) else 0) := by
      simp only [carouselref16_Node.f]
      refine Ev.bind (ev_rhas n o lv d r iv h g rs w gp pe ag rm q rv i hn.1 hn.2 hh.1 hh.2 hd.1 hr.1) (Ev.congr (fun k => ?_) (Ev.now _))
      cases hasOf (planCheck n o lv d r iv h g rs w gp pe ag rm q) n i <;> simp
    have host : Ev (fun k => plan_Plan_Host.f k n o lv d r iv h g rs w gp pe ag rm q rv i) (if hasOf (planCheck n o lv d r iv h g rs w gp pe ag rm q) n i = true then IntKind.u64.wrap (6597069766657 + (IntKind.u64.wrap i)) else 0) := by
      simp only [plan_Plan_Host.f]
      refine Ev.bind (ev_has n o lv d r iv h g rs w gp pe ag rm q rv i) (Ev.congr (fun k => ?_) (Ev.now _))
      cases hasOf (planCheck n o lv d r iv h g rs w gp pe ag rm q) n i <;> simp
    have rhost : Ev (fun k => carouselref16_Host.f k n o lv d r iv h g rs w gp pe ag rm q rv i) (if hasOf (planCheck n o lv d r iv h g rs w gp pe ag rm q) n i = true then IntKind.u64.wrap (6597069766657 + (IntKind.u64.wrap i)) else 0) := by
      simp only [carouselref16_Host.f]
      refine Ev.bind (ev_rhas n o lv d r iv h g rs w gp pe ag rm q rv i hn.1 hn.2 hh.1 hh.2 hd.1 hr.1) (Ev.congr (fun k => ?_) (Ev.now _))
      cases hasOf (planCheck n o lv d r iv h g rs w gp pe ag rm q) n i <;> simp
    refine Ev.bind node ?_
    refine Ev.bind rnode ?_
    simp only [if_true]
    refine Ev.bind host ?_
    refine Ev.bind rhost ?_
    simp only [if_true]
    refine Ev.bind (ev_end n o lv d r iv h g rs w gp pe ag rm q rv i p) ?_
    refine Ev.bind (ev_rend n o lv d r iv h g rs w gp pe ag rm q rv i p hn.1 hn.2 hh.1 hh.2 hd.1 hr.1) ?_
    refine Ev.congr (fun k => ?_) (Ev.now true)
    simp only [plan_Plan_Group.f, name_own, Option.bind_some, grp_eq, rgroup, if_true]
    simp
  exact hgo.rounds

end Go.Proofs.Ytapicoienpbdfaa.Pure
