/- The plain lemmas that this claim's law stands on, in one text. -/
import Derived.Test.YtapicoienpbdfaaGvSplit
import Derived.Test.YtapicoienpbdfaaPPlanRingsx2
import Derived.Test.YtapicoienpbdfaaPPlanRingsx3
import Derived.Test.YtapicoienpbdfaaPPlanRingsx5
/- What is wrong with a plan: the program's comes to plain words. -/
namespace Go.Proofs.Ytapicoienpbdfaa.LPlanRings
open Go.RowKit Go.Proofs.Ytapicoienpbdfaa.PPlanRings Go.Proofs.YtapicoienpbdfaaW.PrintWords Go.Proofs.YtapicoienpbdfaaW.PrintLast Go.Proofs.YtapicoienpbdfaaW.PrintMore Go.Proofs.Ytapicoienpbdfaa
set_option linter.unusedVariables false
set_option linter.unusedSimpArgs false

theorem pl_wrap {n : Int} (h0 : -9223372036854775808 ≤ n) (h1 : n ≤ 9223372036854775807) : wrap64 n = n := by unfold wrap64; omega
def okLen (x : Int) : Bool := decide (1 ≤ x) && decide (x ≤ 1048576)
def plan3 (rm q : Int) : Int := if 1 ≤ rm ∧ rm ≤ 1024 ∧ 1 ≤ q ∧ q ≤ 256 then 0 else 4
def plan2 (iv h g rs w gp pe ag rm q : Int) : Int := if ([iv, g, rs, w, gp, pe, ag].all okLen) = true ∧ 0 ≤ h ∧ h ≤ 1048576 then plan3 rm q else 4
def plan1 (d r iv h g rs w gp pe ag rm q : Int) : Int := if 1 ≤ d ∧ d ≤ 4094 ∧ 1 ≤ r ∧ r ≤ 4094 ∧ d ≠ r then plan2 iv h g rs w gp pe ag rm q else 5
/-- What is wrong with a plan. -/
def planCheck (n o lv d r iv h g rs w gp pe ag rm q : Int) : Int := if 3 ≤ n ∧ n ≤ 16 ∧ 0 ≤ o ∧ o < n ∧ lv ≤ 7 then plan1 d r iv h g rs w gp pe ag rm q else 4

theorem lens_loop (l : List Int) (hl : l.length ≤ 1000) (m : Nat) : ∀ i : Nat, l.length - i = m → i ≤ l.length → Ev (fun k => plan_lengths.l0 k l (l.length : Int) (i : Int)) ((l.drop i).all okLen) := by
  induction m with
  | zero =>
    intro i hi hi2
    rw [List.drop_of_length_le (by omega)]
    refine Ev.step (f := fun k => plan_lengths.l0 (k + 1) l (l.length : Int) (i : Int)) (fun k => rfl) ?_
    simp only [plan_lengths.l0, if_neg (show ¬ (i : Int) < (l.length : Int) from by omega)]
    exact Ev.now _
  | succ m ih =>
    intro i hi hi2
    have hil : i < l.length := by omega
    have hr : rd l (i : Int) = l[i] := by unfold rd; simp [List.getD_eq_getElem?_getD, hil]
    have h := ih (i + 1) (by omega) (by omega)
    rw [List.drop_eq_getElem_cons hil, List.all_cons]
    refine Ev.step (f := fun k => plan_lengths.l0 (k + 1) l (l.length : Int) (i : Int)) (fun k => rfl) ?_
    simp only [plan_lengths.l0, if_pos (show (i : Int) < (l.length : Int) from by omega), if_pos (show (0 : Int) ≤ (i : Int) from by omega), hr]
    by_cases h1 : l[i] < 1
    · simp only [if_pos h1]
      rw [show okLen l[i] = false from by unfold okLen; rw [decide_eq_false (by omega)]; rfl]
      exact Ev.now _
    · simp only [if_neg h1]
      by_cases h2 : l[i] > 1048576
      · simp only [if_pos h2]
        rw [show okLen l[i] = false from by unfold okLen; rw [decide_eq_false (show ¬ l[i] ≤ 1048576 from by omega), Bool.and_false]]
        exact Ev.now _
      · simp only [if_neg h2]
        rw [show okLen l[i] = true from by unfold okLen; rw [decide_eq_true (by omega), decide_eq_true (by omega)]; rfl, Bool.true_and, pl_wrap (by omega) (by omega)]
        exact h
theorem ev_lens (l : List Int) (hl : l.length ≤ 1000) : Ev (fun k => plan_lengths.f k l) (l.all okLen) := lens_loop l hl _ 0 rfl (by omega)
theorem pl_vlan (n : Int) : plan_vlan.f n = some (decide (1 ≤ n ∧ n ≤ 4094)) := by
  unfold plan_vlan.f
  by_cases h : n ≥ 1
  · rw [if_pos h]
    have : (1 ≤ n ∧ n ≤ 4094) = (n ≤ 4094) := by apply propext; omega
    simp [this]
  · rw [if_neg h, decide_eq_false (by omega)]
theorem pc_j4 (x : Bool) : Ev (fun k => plan_Plan_Check.j4 k x) (if x = true then 4 else 0) := by
  refine Ev.step (f := fun k => plan_Plan_Check.j4 (k + 1) x) (fun k => rfl) ?_
  simp only [plan_Plan_Check.j4]
  refine Ev.congr (fun k => ?_) (Ev.now _)
  cases x <;> rfl
theorem pc_j3 (x : Bool) (n o lv d r iv h g rs w gp pe ag rm q : Int) (rv : Bool) : Ev (fun k => plan_Plan_Check.j3 k x n o lv d r iv h g rs w gp pe ag rm q rv) (if x = true then 4 else plan3 rm q) := by
  refine Ev.step (f := fun k => plan_Plan_Check.j3 (k + 1) x n o lv d r iv h g rs w gp pe ag rm q rv) (fun k => rfl) ?_
  simp only [plan_Plan_Check.j3]
  cases x with
  | true => simp only [if_true]; exact Ev.now _
  | false =>
    simp only [Bool.false_eq_true, if_false]
    by_cases a1 : rm < 1
    · simp only [if_pos a1]
      rw [show plan3 rm q = 4 from by unfold plan3; rw [if_neg (by omega)]]
      exact pc_j4 true
    · simp only [if_neg a1]
      by_cases a2 : rm > 1024
      · simp only [if_pos a2]
        rw [show plan3 rm q = 4 from by unfold plan3; rw [if_neg (by omega)]]
        exact pc_j4 true
      · simp only [if_neg a2]
        by_cases a3 : q < 1
        · simp only [if_pos a3]
          rw [show plan3 rm q = 4 from by unfold plan3; rw [if_neg (by omega)]]
          exact pc_j4 true
        · simp only [if_neg a3]
          have hj := pc_j4 (decide (q > 256))
          by_cases a4 : q > 256
          · rw [show plan3 rm q = 4 from by unfold plan3; rw [if_neg (by omega)]]
            rw [if_pos (by simpa using a4)] at hj
            exact hj
          · rw [show plan3 rm q = 0 from by unfold plan3; rw [if_pos (by omega)]]
            rw [if_neg (by simpa using a4)] at hj
            exact hj
theorem pc_j2 (x : Bool) (n o lv d r iv h g rs w gp pe ag rm q : Int) (rv : Bool) : Ev (fun k => plan_Plan_Check.j2 k x n o lv d r iv h g rs w gp pe ag rm q rv) (if x = true then 5 else plan2 iv h g rs w gp pe ag rm q) := by
  have hl := ev_lens [iv, g, rs, w, gp, pe, ag] (by simp)
  have ht := pc_j3 true n o lv d r iv h g rs w gp pe ag rm q rv
  rw [if_pos rfl] at ht
  refine Ev.step (f := fun k => plan_Plan_Check.j2 (k + 1) x n o lv d r iv h g rs w gp pe ag rm q rv) (fun k => rfl) ?_
  simp only [plan_Plan_Check.j2]
  cases x with
  | true => simp only [if_true]; exact Ev.now _
  | false =>
    simp only [Bool.false_eq_true, if_false]
    refine Ev.bind hl ?_
    unfold plan2
    cases hb : [iv, g, rs, w, gp, pe, ag].all okLen with
    | true =>
      simp only [if_true, true_and]
      by_cases a1 : h < 0
      · simp only [if_pos a1]
        rw [if_neg (by omega)]
        exact ht
      · simp only [if_neg a1]
        have hj := pc_j3 (decide (h > 1048576)) n o lv d r iv h g rs w gp pe ag rm q rv
        by_cases a2 : h > 1048576
        · rw [if_pos (by simpa using a2)] at hj
          rw [if_neg (by omega)]
          exact hj
        · rw [if_neg (by simpa using a2)] at hj
          rw [if_pos (by omega)]
          exact hj
    | false =>
      simp only [Bool.false_eq_true, if_false, false_and]
      exact ht
theorem pc_j1 (x : Bool) (n o lv d r iv h g rs w gp pe ag rm q : Int) (rv : Bool) : Ev (fun k => plan_Plan_Check.j1 k x n o lv d r iv h g rs w gp pe ag rm q rv) (if x = true then 4 else plan1 d r iv h g rs w gp pe ag rm q) := by
  have ht := pc_j2 true n o lv d r iv h g rs w gp pe ag rm q rv
  rw [if_pos rfl] at ht
  have hj := pc_j2 (d == r) n o lv d r iv h g rs w gp pe ag rm q rv
  refine Ev.step (f := fun k => plan_Plan_Check.j1 (k + 1) x n o lv d r iv h g rs w gp pe ag rm q rv) (fun k => rfl) ?_
  simp only [plan_Plan_Check.j1, pl_vlan, Option.bind_some]
  cases x with
  | true => simp only [if_true]; exact Ev.now _
  | false =>
    simp only [Bool.false_eq_true, if_false]
    unfold plan1
    by_cases a1 : 1 ≤ d ∧ d ≤ 4094
    · simp only [decide_eq_true a1, if_true]
      by_cases a2 : 1 ≤ r ∧ r ≤ 4094
      · simp only [decide_eq_true a2, if_true]
        by_cases a3 : d = r
        · rw [if_pos (by simpa using a3)] at hj
          rw [if_neg (fun h => h.2.2.2.2 a3)]
          exact hj
        · rw [if_neg (by simpa using a3)] at hj
          rw [if_pos ⟨a1.1, a1.2, a2.1, a2.2, a3⟩]
          exact hj
      · simp only [decide_eq_false a2, Bool.false_eq_true, if_false]
        rw [if_neg (fun h => a2 ⟨h.2.2.1, h.2.2.2.1⟩)]
        exact ht
    · simp only [decide_eq_false a1, Bool.false_eq_true, if_false]
      rw [if_neg (fun h => a1 ⟨h.1, h.2.1⟩)]
      exact ht
theorem pc_j0 (x : Bool) (n o lv d r iv h g rs w gp pe ag rm q : Int) (rv : Bool) (hn : x = false → 3 ≤ n ∧ n ≤ 16) : Ev (fun k => plan_Plan_Check.j0 k x n o lv d r iv h g rs w gp pe ag rm q rv) (if x = true then 4 else planCheck n o lv d r iv h g rs w gp pe ag rm q) := by
  have ht := pc_j1 true n o lv d r iv h g rs w gp pe ag rm q rv
  rw [if_pos rfl] at ht
  have hj := pc_j1 (decide (lv > 7)) n o lv d r iv h g rs w gp pe ag rm q rv
  refine Ev.step (f := fun k => plan_Plan_Check.j0 (k + 1) x n o lv d r iv h g rs w gp pe ag rm q rv) (fun k => rfl) ?_
  simp only [plan_Plan_Check.j0]
  cases x with
  | true => simp only [if_true]; exact Ev.now _
  | false =>
    have hn := hn rfl
    simp only [Bool.false_eq_true, if_false]
    unfold planCheck
    by_cases a1 : o < 0
    · simp only [if_pos a1]; rw [if_neg (by omega)]; exact ht
    · simp only [if_neg a1]
      by_cases a2 : o ≥ n
      · simp only [if_pos a2]; rw [if_neg (by omega)]; exact ht
      · simp only [if_neg a2]
        by_cases a3 : lv > 7
        · rw [if_pos (by simpa using a3)] at hj
          rw [if_neg (by omega)]
          exact hj
        · rw [if_neg (by simpa using a3)] at hj
          rw [if_pos (by omega)]
          exact hj
theorem ev_check (n o lv d r iv h g rs w gp pe ag rm q : Int) (rv : Bool) : Ev (fun k => plan_Plan_Check.f k n o lv d r iv h g rs w gp pe ag rm q rv) (planCheck n o lv d r iv h g rs w gp pe ag rm q) := by
  simp only [plan_Plan_Check.f]
  have bad : ¬ (3 ≤ n ∧ n ≤ 16) → planCheck n o lv d r iv h g rs w gp pe ag rm q = 4 := by
    intro hb; unfold planCheck; rw [if_neg (by omega)]
  by_cases a1 : n < 3
  · simp only [if_pos a1]
    have hj := pc_j0 true n o lv d r iv h g rs w gp pe ag rm q rv (by simp)
    rw [if_pos rfl] at hj
    rw [bad (by omega)]; exact hj
  · simp only [if_neg a1]
    have hj := pc_j0 (decide (n > 16)) n o lv d r iv h g rs w gp pe ag rm q rv (fun h => by have := of_decide_eq_false h; omega)
    by_cases a2 : n > 16
    · rw [if_pos (by simpa using a2)] at hj
      rw [bad (by omega)]; exact hj
    · rw [if_neg (by simpa using a2)] at hj
      exact hj

end Go.Proofs.Ytapicoienpbdfaa.LPlanRings

/- PlanRings, walked by hand: what its calls yield. -/
namespace Go.Proofs.Ytapicoienpbdfaa.Ri
open Go.RowKit Go.Proofs.Ytapicoienpbdfaa.PPlanRings Go.Proofs.YtapicoienpbdfaaW.PrintWords Go.Proofs.YtapicoienpbdfaaW.PrintLast Go.Proofs.YtapicoienpbdfaaW.PrintMore Go.Proofs.Ytapicoienpbdfaa Go.Proofs.Ytapicoienpbdfaa.LPlanRings
set_option linter.unusedVariables false
set_option linter.unusedSimpArgs false

theorem check_zero {n o lv d r iv h g rs w gp pe ag rm q : Int} (hc : planCheck n o lv d r iv h g rs w gp pe ag rm q = 0) : 3 ≤ n ∧ n ≤ 16 ∧ 0 ≤ o ∧ o < n := by
  unfold planCheck at hc
  by_cases c : 3 ≤ n ∧ n ≤ 16 ∧ 0 ≤ o ∧ o < n ∧ lv ≤ 7
  · exact ⟨c.1, c.2.1, c.2.2.1, c.2.2.2.1⟩
  · rw [if_neg c] at hc; omega
/-- Has a plan a node? -/
def hasOf (c n i : Int) : Bool := decide (c = 0 ∧ 0 ≤ i ∧ i < n)
theorem ev_has (n o lv d r iv h g rs w gp pe ag rm q : Int) (rv : Bool) (i : Int) : Ev (fun k => plan_Plan_has.f k n o lv d r iv h g rs w gp pe ag rm q rv i) (hasOf (planCheck n o lv d r iv h g rs w gp pe ag rm q) n i) := by
  simp only [plan_Plan_has.f]
  refine Ev.bind (ev_check n o lv d r iv h g rs w gp pe ag rm q rv) ?_
  unfold hasOf
  generalize planCheck n o lv d r iv h g rs w gp pe ag rm q = c
  refine Ev.congr (fun k => ?_) (Ev.now _)
  by_cases h1 : c = 0
  · rw [if_pos h1]
    by_cases h2 : i ≥ 0
    · rw [if_pos h2]
      have : (c = 0 ∧ 0 ≤ i ∧ i < n) = (i < n) := by apply propext; omega
      simp only [this]
    · rw [if_neg h2, decide_eq_false (by omega)]
  · rw [if_neg h1, decide_eq_false (fun h => h1 h.1)]
def farOf (has : Bool) (n i p : Int) : Int × Int := if has = true then (if p = 1 then ((i + 1) % n, 0) else if p = 0 then ((i + n - 1) % n, 1) else (-1, -1)) else (-1, -1)
def roleOf (has : Bool) (n o i : Int) : Int × Int := if has = true then (if i = o then (1, 1) else if i = (o + 1) % n then (2, 0) else (0, -1)) else (0, -1)
def endOf (has : Bool) (i p : Int) : Int := if has = true ∧ (p = 0 ∨ p = 1) then 2 * i + p + 1 else 0
theorem has_facts {c n o i : Int} (h : hasOf c n i = true) : c = 0 ∧ 0 ≤ i ∧ i < n := of_decide_eq_true h
theorem ev_far (n o lv d r iv h g rs w gp pe ag rm q : Int) (rv : Bool) (i p : Int) : Ev (fun k => plan_Plan_Far.f k n o lv d r iv h g rs w gp pe ag rm q rv i p) (farOf (hasOf (planCheck n o lv d r iv h g rs w gp pe ag rm q) n i) n i p) := by
  simp only [plan_Plan_Far.f]
  refine Ev.bind (ev_has n o lv d r iv h g rs w gp pe ag rm q rv i) ?_
  unfold farOf
  refine Ev.congr (fun k => ?_) (Ev.now _)
  cases hh : hasOf (planCheck n o lv d r iv h g rs w gp pe ag rm q) n i with
  | false => simp
  | true =>
    have hf := has_facts (o := o) hh
    have hz := check_zero hf.1
    simp only [if_true, if_neg (show ¬ n = 0 from by omega)]
    rw [pl_wrap (n := i + 1) (by omega) (by omega), pl_wrap (n := i + n) (by omega) (by omega), pl_wrap (n := i + n - 1) (by omega) (by omega), Int.tmod_eq_emod_of_nonneg (by omega), Int.tmod_eq_emod_of_nonneg (by omega)]
    by_cases h1 : p = 1
    · rw [if_pos h1, if_pos h1]
    · rw [if_neg h1, if_neg h1]
      by_cases h0 : p = 0
      · rw [if_pos h0, if_pos h0]
      · rw [if_neg h0, if_neg h0]
theorem mod_next (n i : Int) (h0 : 0 ≤ i) (h1 : i < n) : (i + 1) % n = if i = n - 1 then 0 else i + 1 := by
  by_cases h : i = n - 1
  · rw [if_pos h, show i + 1 = n from by omega, Int.emod_self]
  · rw [if_neg h, Int.emod_eq_of_lt (by omega) (by omega)]
theorem mod_prev (n i : Int) (h0 : 0 ≤ i) (h1 : i < n) : (i + n - 1) % n = if i = 0 then n - 1 else i - 1 := by
  by_cases h : i = 0
  · rw [if_pos h, h, show 0 + n - 1 = n - 1 from by omega, Int.emod_eq_of_lt (by omega) (by omega)]
  · rw [if_neg h, show i + n - 1 = (i - 1) + n from by omega, Int.add_emod_right, Int.emod_eq_of_lt (by omega) (by omega)]
theorem ev_role (n o lv d r iv h g rs w gp pe ag rm q : Int) (rv : Bool) (i : Int) : Ev (fun k => plan_Plan_Role.f k n o lv d r iv h g rs w gp pe ag rm q rv i) (roleOf (hasOf (planCheck n o lv d r iv h g rs w gp pe ag rm q) n i) n o i) := by
  simp only [plan_Plan_Role.f]
  refine Ev.bind (ev_has n o lv d r iv h g rs w gp pe ag rm q rv i) ?_
  unfold roleOf
  refine Ev.congr (fun k => ?_) (Ev.now _)
  cases hh : hasOf (planCheck n o lv d r iv h g rs w gp pe ag rm q) n i with
  | false => simp
  | true =>
    have hf := has_facts (o := o) hh
    have hz := check_zero hf.1
    simp only [if_true, if_neg (show ¬ n = 0 from by omega)]
    rw [pl_wrap (n := o + 1) (by omega) (by omega), Int.tmod_eq_emod_of_nonneg (by omega)]
    by_cases h1 : i = o
    · rw [if_pos h1, if_pos h1]
    · rw [if_neg h1, if_neg h1]
      by_cases h2 : i = (o + 1) % n
      · rw [if_pos h2, if_pos h2]
      · rw [if_neg h2, if_neg h2]
theorem ev_endj (i p : Int) (x : Bool) : Ev (fun k => plan_Plan_End.j0 k i p x) (if x = true then 0 else IntKind.u16.wrap (wrap64 ((wrap64 ((wrap64 (2 * i)) + p)) + 1))) := by
  refine Ev.step (f := fun k => plan_Plan_End.j0 (k + 1) i p x) (fun k => rfl) ?_
  simp only [plan_Plan_End.j0]
  cases x
  · exact Ev.now _
  · exact Ev.now _
theorem ev_end (n o lv d r iv h g rs w gp pe ag rm q : Int) (rv : Bool) (i p : Int) : Ev (fun k => plan_Plan_End.f k n o lv d r iv h g rs w gp pe ag rm q rv i p) (endOf (hasOf (planCheck n o lv d r iv h g rs w gp pe ag rm q) n i) i p) := by
  simp only [plan_Plan_End.f]
  refine Ev.bind (ev_has n o lv d r iv h g rs w gp pe ag rm q rv i) ?_
  unfold endOf
  cases hh : hasOf (planCheck n o lv d r iv h g rs w gp pe ag rm q) n i with
  | false => simpa using ev_endj i p true
  | true =>
    have hf := has_facts (o := o) hh
    have hz := check_zero hf.1
    simp only [if_true, true_and]
    by_cases h0 : p = 0
    · have e : IntKind.u16.wrap (wrap64 ((wrap64 ((wrap64 (2 * i)) + p)) + 1)) = 2 * i + p + 1 := by
        rw [pl_wrap (n := 2 * i) (by omega) (by omega), pl_wrap (n := 2 * i + p) (by omega) (by omega), pl_wrap (n := 2 * i + p + 1) (by omega) (by omega)]
        show (2 * i + p + 1) % 65536 = _
        omega
      have hj := ev_endj i p false
      simp only [Bool.false_eq_true, if_false, e] at hj
      simpa [h0] using hj
    · by_cases h1 : p = 1
      · have e : IntKind.u16.wrap (wrap64 ((wrap64 ((wrap64 (2 * i)) + p)) + 1)) = 2 * i + p + 1 := by
          rw [pl_wrap (n := 2 * i) (by omega) (by omega), pl_wrap (n := 2 * i + p) (by omega) (by omega), pl_wrap (n := 2 * i + p + 1) (by omega) (by omega)]
          show (2 * i + p + 1) % 65536 = _
          omega
        have hj := ev_endj i p false
        simp only [Bool.false_eq_true, if_false, e] at hj
        simpa [h0, h1] using hj
      · have hb : (p != 1) = true := by simpa using h1
        simpa [h0, h1, hb] using ev_endj i p true

theorem has_true {c n i : Int} (hc : c = 0) (h0 : 0 ≤ i) (h1 : i < n) : hasOf c n i = true := decide_eq_true ⟨hc, h0, h1⟩
theorem u64w {n : Int} (h0 : 0 ≤ n) (h1 : n ≤ 18446744073709551615) : IntKind.u64.wrap n = n := by
  have e : IntKind.u64.wrap n = n % 18446744073709551616 := rfl
  rw [e]; omega
theorem check_c (n o lv dt rg iv ho gd rs wt gp pe ag rm qu : Int) (rv : Bool) (w : World) : Calls Try.prog 30 #[.agg #[.int .i64 n, .int .i64 o, .int .u8 lv, .int .u16 dt, .int .u16 rg, .int .i64 iv, .int .i64 ho, .int .i64 gd, .int .i64 rs, .int .i64 wt, .int .i64 gp, .int .i64 pe, .int .i64 ag, .int .i64 rm, .int .i64 qu, .bool rv]] w fun y w' => y = .returned (.int .i64 (planCheck n o lv dt rg iv ho gd rs wt gp pe ag rm qu)) ∧ Below w.heap.size w w' := by
  obtain ⟨k, hk⟩ := ev_check n o lv dt rg iv ho gd rs wt gp pe ag rm qu rv
  exact plan_Plan_Check.calls k _ _ _ _ _ _ _ _ _ _ _ _ _ _ _ _ _ w (hk k (Nat.le_refl _))
theorem awake_c (w : World) : Calls Try.prog 12 #[] w fun y w' => y = .returned (.bool true) ∧ Below w.heap.size w w' := by
  obtain ⟨k, hk⟩ := (Ev.of carousellaw16_Awake.mono (k := 60) (by decide +kernel) : Ev (fun k => carousellaw16_Awake.f k) true)
  exact carousellaw16_Awake.calls k true w (hk k (Nat.le_refl _))
theorem node_c (n o lv dt rg iv ho gd rs wt gp pe ag rm qu : Int) (rv : Bool) (i : Int) (w : World) (hc : planCheck n o lv dt rg iv ho gd rs wt gp pe ag rm qu = 0) (h0 : 0 ≤ i) (h1 : i < n) : Calls Try.prog 13 #[.agg #[.int .i64 n, .int .i64 o, .int .u8 lv, .int .u16 dt, .int .u16 rg, .int .i64 iv, .int .i64 ho, .int .i64 gd, .int .i64 rs, .int .i64 wt, .int .i64 gp, .int .i64 pe, .int .i64 ag, .int .i64 rm, .int .i64 qu, .bool rv], .int .i64 i] w fun y w' => y = .returned (.int .u64 (2199023255553 + i)) ∧ Below w.heap.size w w' := by
  have hh := ev_has n o lv dt rg iv ho gd rs wt gp pe ag rm qu rv i
  rw [has_true hc h0 h1] at hh
  have hz := check_zero hc
  have he : Ev (fun k => plan_Plan_Node.f k n o lv dt rg iv ho gd rs wt gp pe ag rm qu rv i) (2199023255553 + i) := by
    simp only [plan_Plan_Node.f]
    refine Ev.bind hh ?_
    simp only [if_true, u64w (n := i) h0 (by omega), u64w (n := 2199023255553 + i) (by omega) (by omega)]
    exact Ev.now _
  obtain ⟨k, hk⟩ := he
  exact plan_Plan_Node.calls k _ _ _ _ _ _ _ _ _ _ _ _ _ _ _ _ _ _ w (hk k (Nat.le_refl _))
theorem host_c (n o lv dt rg iv ho gd rs wt gp pe ag rm qu : Int) (rv : Bool) (i : Int) (w : World) (hc : planCheck n o lv dt rg iv ho gd rs wt gp pe ag rm qu = 0) (h0 : 0 ≤ i) (h1 : i < n) : Calls Try.prog 15 #[.agg #[.int .i64 n, .int .i64 o, .int .u8 lv, .int .u16 dt, .int .u16 rg, .int .i64 iv, .int .i64 ho, .int .i64 gd, .int .i64 rs, .int .i64 wt, .int .i64 gp, .int .i64 pe, .int .i64 ag, .int .i64 rm, .int .i64 qu, .bool rv], .int .i64 i] w fun y w' => y = .returned (.int .u64 (6597069766657 + i)) ∧ Below w.heap.size w w' := by
  have hh := ev_has n o lv dt rg iv ho gd rs wt gp pe ag rm qu rv i
  rw [has_true hc h0 h1] at hh
  have hz := check_zero hc
  have he : Ev (fun k => plan_Plan_Host.f k n o lv dt rg iv ho gd rs wt gp pe ag rm qu rv i) (6597069766657 + i) := by
    simp only [plan_Plan_Host.f]
    refine Ev.bind hh ?_
    simp only [if_true, u64w (n := i) h0 (by omega), u64w (n := 6597069766657 + i) (by omega) (by omega)]
    exact Ev.now _
  obtain ⟨k, hk⟩ := he
  exact plan_Plan_Host.calls k _ _ _ _ _ _ _ _ _ _ _ _ _ _ _ _ _ _ w (hk k (Nat.le_refl _))
theorem east_c (n o lv dt rg iv ho gd rs wt gp pe ag rm qu : Int) (rv : Bool) (i : Int) (w : World) (hc : planCheck n o lv dt rg iv ho gd rs wt gp pe ag rm qu = 0) (h0 : 0 ≤ i) (h1 : i < n) : Calls Try.prog 10 #[.agg #[.int .i64 n, .int .i64 o, .int .u8 lv, .int .u16 dt, .int .u16 rg, .int .i64 iv, .int .i64 ho, .int .i64 gd, .int .i64 rs, .int .i64 wt, .int .i64 gp, .int .i64 pe, .int .i64 ag, .int .i64 rm, .int .i64 qu, .bool rv], .int .i64 i, .int .i64 1] w fun y w' => y = .returned (.tuple #[.int .i64 (if i = n - 1 then 0 else i + 1), .int .i64 0]) ∧ Below w.heap.size w w' := by
  have he := ev_far n o lv dt rg iv ho gd rs wt gp pe ag rm qu rv i 1
  rw [has_true hc h0 h1] at he
  have e : farOf true n i 1 = (if i = n - 1 then 0 else i + 1, 0) := by unfold farOf; rw [if_pos rfl, if_pos rfl, mod_next n i h0 h1]
  rw [e] at he
  obtain ⟨k, hk⟩ := he
  exact plan_Plan_Far.calls k _ _ _ _ _ _ _ _ _ _ _ _ _ _ _ _ _ _ _ _ w (hk k (Nat.le_refl _))
theorem west_c (n o lv dt rg iv ho gd rs wt gp pe ag rm qu : Int) (rv : Bool) (i : Int) (w : World) (hc : planCheck n o lv dt rg iv ho gd rs wt gp pe ag rm qu = 0) (h0 : 0 ≤ i) (h1 : i < n) : Calls Try.prog 10 #[.agg #[.int .i64 n, .int .i64 o, .int .u8 lv, .int .u16 dt, .int .u16 rg, .int .i64 iv, .int .i64 ho, .int .i64 gd, .int .i64 rs, .int .i64 wt, .int .i64 gp, .int .i64 pe, .int .i64 ag, .int .i64 rm, .int .i64 qu, .bool rv], .int .i64 i, .int .i64 0] w fun y w' => y = .returned (.tuple #[.int .i64 (if i = 0 then n - 1 else i - 1), .int .i64 1]) ∧ Below w.heap.size w w' := by
  have he := ev_far n o lv dt rg iv ho gd rs wt gp pe ag rm qu rv i 0
  rw [has_true hc h0 h1] at he
  have e : farOf true n i 0 = (if i = 0 then n - 1 else i - 1, 1) := by unfold farOf; rw [if_pos rfl, if_neg (by decide), if_pos rfl, mod_prev n i h0 h1]
  rw [e] at he
  obtain ⟨k, hk⟩ := he
  exact plan_Plan_Far.calls k _ _ _ _ _ _ _ _ _ _ _ _ _ _ _ _ _ _ _ _ w (hk k (Nat.le_refl _))
theorem role_c (n o lv dt rg iv ho gd rs wt gp pe ag rm qu : Int) (rv : Bool) (i : Int) (w : World) (hc : planCheck n o lv dt rg iv ho gd rs wt gp pe ag rm qu = 0) (h0 : 0 ≤ i) (h1 : i < n) : Calls Try.prog 8 #[.agg #[.int .i64 n, .int .i64 o, .int .u8 lv, .int .u16 dt, .int .u16 rg, .int .i64 iv, .int .i64 ho, .int .i64 gd, .int .i64 rs, .int .i64 wt, .int .i64 gp, .int .i64 pe, .int .i64 ag, .int .i64 rm, .int .i64 qu, .bool rv], .int .i64 i] w fun y w' => y = .returned (.tuple #[.int .i64 (roleOf true n o i).1, .int .i64 (roleOf true n o i).2]) ∧ Below w.heap.size w w' := by
  have he := ev_role n o lv dt rg iv ho gd rs wt gp pe ag rm qu rv i
  rw [has_true hc h0 h1] at he
  obtain ⟨k, hk⟩ := he
  exact plan_Plan_Role.calls k _ _ _ _ _ _ _ _ _ _ _ _ _ _ _ _ _ _ _ w (hk k (Nat.le_refl _))
theorem end_c (n o lv dt rg iv ho gd rs wt gp pe ag rm qu : Int) (rv : Bool) (i p : Int) (w : World) (hc : planCheck n o lv dt rg iv ho gd rs wt gp pe ag rm qu = 0) (h0 : 0 ≤ i) (h1 : i < n) (hp : p = 0 ∨ p = 1) : Calls Try.prog 17 #[.agg #[.int .i64 n, .int .i64 o, .int .u8 lv, .int .u16 dt, .int .u16 rg, .int .i64 iv, .int .i64 ho, .int .i64 gd, .int .i64 rs, .int .i64 wt, .int .i64 gp, .int .i64 pe, .int .i64 ag, .int .i64 rm, .int .i64 qu, .bool rv], .int .i64 i, .int .i64 p] w fun y w' => y = .returned (.int .u16 (2 * i + p + 1)) ∧ Below w.heap.size w w' := by
  have he := ev_end n o lv dt rg iv ho gd rs wt gp pe ag rm qu rv i p
  rw [has_true hc h0 h1] at he
  have e : endOf true i p = 2 * i + p + 1 := by unfold endOf; rw [if_pos ⟨rfl, hp⟩]
  rw [e] at he
  obtain ⟨k, hk⟩ := he
  exact plan_Plan_End.calls k _ _ _ _ _ _ _ _ _ _ _ _ _ _ _ _ _ _ _ w (hk k (Nat.le_refl _))
theorem may_c (x : Int) (w : World) (h0 : 0 ≤ x) (h1 : x ≤ 6597069766999) : Calls Try.prog 32 #[.int .u64 x] w fun y w' => y = .returned (.bool true) ∧ Below w.heap.size w w' := by
  have e : mac_Addr_May.f x = some true := by unfold mac_Addr_May.f; rw [decide_eq_true (by omega)]
  exact (mac_Addr_May.calls x true w e).mono fun _ _ h => ⟨h.1, h.2.below⟩
theorem group_c (x : Int) (w : World) (hx : (2199023255553 ≤ x ∧ x ≤ 2199023255599) ∨ (6597069766657 ≤ x ∧ x ≤ 6597069766699)) : Calls Try.prog 31 #[.int .u64 x] w fun y w' => y = .returned (.bool false) ∧ Below w.heap.size w w' := by
  have e : mac_Addr_Group.f x = some false := by
    have e1 : mac_Addr_May.f x = some true := by unfold mac_Addr_May.f; rw [decide_eq_true (by omega)]
    unfold mac_Addr_Group.f
    rw [e1]
    rcases hx with hx | hx
    · rw [show x / 1099511627776 = 2 from by omega]; decide +kernel
    · rw [show x / 1099511627776 = 6 from by omega]; decide +kernel
  exact (mac_Addr_Group.calls x false w e).mono fun _ _ h => ⟨h.1, h.2.below⟩
end Go.Proofs.Ytapicoienpbdfaa.Ri
