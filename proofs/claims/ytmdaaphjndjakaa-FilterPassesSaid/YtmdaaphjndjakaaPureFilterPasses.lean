/- The law FilterPasses holds: what passes between any ports, with whatever is shut, is the document's answer: for every input. -/
import Derived.Test.YtmdaaphjndjakaaPAllx4
namespace Go.Proofs.Ytmdaaphjndjakaa.Pure
open Go.RowKit Go.Proofs.Ytmdaaphjndjakaa.PAll Go.Proofs.YtmdaaphjndjakaaW.PrintWords Go.Proofs.YtmdaaphjndjakaaW.PrintLast Go.Proofs.YtmdaaphjndjakaaW.PrintMore Go.Proofs.Ytmdaaphjndjakaa
set_option linter.unusedVariables false

theorem fp_awake : Ev (fun k => carousellaw18_Awake.f k) true :=
  Ev.of carousellaw18_Awake.mono (k := 20) (by decide +kernel)
/-- Is a port open? -/
def opn (a b : Bool) (p : Int) : Bool := if p = 2 then true else if p = 0 then !a else if p = 1 then !b else false
/-- Do data pass? -/
def dat (a b : Bool) (i o : Int) : Bool := (i != o) && (opn a b i && opn a b o)
theorem open_f (a b : Bool) (p : Int) : filter_Open.f a b p = some (opn a b p) := rfl
theorem ropen_f (a b : Bool) (p : Int) : carouselref18_Open.f a b p = some (opn a b p) := rfl
theorem data_f (a b : Bool) (i o : Int) : filter_Data.f a b i o = some (dat a b i o) := by
  unfold filter_Data.f dat
  rw [open_f, open_f]
  by_cases h : i = o
  · simp [h]
  · rw [if_neg h]
    simp only [Option.bind_some]
    cases opn a b i <;> simp [h]
theorem ring_f (p : Int) : filter_ring.f p = some (p == 0 || p == 1) := by
  unfold filter_ring.f
  by_cases h : p = 0
  · simp [h]
  · rw [if_neg h]; simp [h]
theorem rings_f (a b : Bool) (i o : Int) : filter_Ring.f a b i o = some ((i == 0 || i == 1) && ((o == 0 || o == 1) && dat a b i o)) := by
  unfold filter_Ring.f
  rw [ring_f, ring_f, data_f]
  simp only [Option.bind_some]
  cases (i == 0 || i == 1) <;> cases (o == 0 || o == 1) <;> simp
/-- The ports to which data pass. -/
def outs (a b : Bool) (i : Int) : List Int := (if dat a b i 0 = true then [0] else []) ++ ((if dat a b i 1 = true then [1] else []) ++ (if dat a b i 2 = true then [2] else []))
theorem outs_step (a b : Bool) (i : Int) (out : List Int) (p : Int) (hp : 0 ≤ p) (hp2 : p < 3) (ho : out.length ≤ 5) (r : List Int) (h : Ev (fun k => filter_Outs.l0 k i (out ++ if dat a b i p = true then [p] else []) (p + 1) a b) r) : Ev (fun k => filter_Outs.l0 k i out p a b) r := by
  refine Ev.step (fun k => ?_) h
  simp only [filter_Outs.l0]
  have hle : out.length < 17592186044416 := by omega
  rw [if_pos hp2, data_f, Option.bind_some, show wrap64 (p + 1) = p + 1 from by unfold wrap64; omega]
  by_cases hd : dat a b i p = true
  · simp only [if_pos hd, if_pos hle]
  · simp only [if_neg hd, List.append_nil]
theorem ev_outs (a b : Bool) (i : Int) : Ev (fun k => filter_Outs.f k a b i) (outs a b i) := by
  have l0 : ∀ p : Int, (if dat a b i p = true then [p] else []).length ≤ 1 := fun p => by split <;> simp
  refine Ev.congr (fun k => rfl) (outs_step a b i [] 0 (by omega) (by omega) (by simp) _ (outs_step a b i _ 1 (by omega) (by omega) (by have := l0 0; simp only [List.nil_append]; omega) _ (outs_step a b i _ 2 (by omega) (by omega) (by have := l0 0; have := l0 1; simp only [List.nil_append, List.length_append]; omega) _ ?_)))
  refine Ev.step (f := fun _ => some (outs a b i)) (fun k => ?_) (Ev.now _)
  simp only [filter_Outs.l0]
  rw [if_neg (by omega)]
  simp only [outs, List.nil_append, List.append_assoc]
theorem routs_step (a b : Bool) (i : Int) (out : List Int) (p : Int) (hp : 0 ≤ p) (hp2 : p < 3) (ho : out.length ≤ 5) (r : List Int) (h : Ev (fun k => carouselref18_Outs.l0 k i (out ++ if dat a b i p = true then [p] else []) (p + 1) a b) r) : Ev (fun k => carouselref18_Outs.l0 k i out p a b) r := by
  refine Ev.step (fun k => ?_) h
  simp only [carouselref18_Outs.l0]
  have hle : out.length < 17592186044416 := by omega
  simp only [if_pos hp2, ropen_f, Option.bind_some, if_pos hle]
  rw [show wrap64 (p + 1) = p + 1 from by unfold wrap64; omega]
  by_cases he : p = i
  · have hd : dat a b i p = false := by simp [dat, he]
    rw [if_pos he, hd]; simp
  · rw [if_neg he]
    have hd : dat a b i p = (opn a b i && opn a b p) := by
      have : (i != p) = true := by rw [bne_iff_ne]; exact fun h => he h.symm
      simp [dat, this]
    rw [hd]
    cases opn a b p <;> cases opn a b i <;> simp
theorem ev_routs (a b : Bool) (i : Int) : Ev (fun k => carouselref18_Outs.f k a b i) (outs a b i) := by
  have l0 : ∀ p : Int, (if dat a b i p = true then [p] else []).length ≤ 1 := fun p => by split <;> simp
  refine Ev.congr (fun k => rfl) (routs_step a b i [] 0 (by omega) (by omega) (by simp) _ (routs_step a b i _ 1 (by omega) (by omega) (by have := l0 0; simp only [List.nil_append]; omega) _ (routs_step a b i _ 2 (by omega) (by omega) (by have := l0 0; have := l0 1; simp only [List.nil_append, List.length_append]; omega) _ ?_)))
  refine Ev.step (f := fun _ => some (outs a b i)) (fun k => ?_) (Ev.now _)
  simp only [carouselref18_Outs.l0]
  rw [if_neg (by omega)]
  simp only [outs, List.nil_append, List.append_assoc]
theorem outs_len (a b : Bool) (i : Int) : (outs a b i).length ≤ 3 := by
  unfold outs
  split <;> split <;> split <;> simp
theorem ev_has (l : List Int) (hl : l.length ≤ 100) (p : Int) (d : Nat) : ∀ j : Nat, l.length - j = d → j ≤ l.length → (∀ x ∈ l.take j, x ≠ p) → Ev (fun k => carouselref18_Has.l0 k l p (j : Int)) (decide (p ∈ l)) := by
  induction d with
  | zero =>
    intro j hj hj2 hn
    rw [List.take_of_length_le (by omega)] at hn
    have e : decide (p ∈ l) = false := decide_eq_false fun h => hn p h rfl
    rw [e]
    refine Ev.step (f := fun _ => some false) (fun k => ?_) (Ev.now _)
    simp only [carouselref18_Has.l0]
    rw [if_neg (by omega)]
  | succ d ih =>
    intro j hj hj2 hn
    have hj3 : j < l.length := by omega
    have hrd : rd l (j : Int) = l[j] := by unfold rd; simp [List.getD_eq_getElem?_getD, hj3]
    by_cases he : l[j] = p
    · have e : decide (p ∈ l) = true := decide_eq_true (he ▸ List.getElem_mem hj3)
      rw [e]
      refine Ev.step (f := fun _ => some true) (fun k => ?_) (Ev.now _)
      simp only [carouselref18_Has.l0]
      rw [if_pos (by omega), if_pos (by omega), hrd, if_pos he]
    · have h := ih (j + 1) (by omega) (by omega) (by
        intro x hx
        rw [List.take_succ_eq_append_getElem hj3, List.mem_append, List.mem_singleton] at hx
        rcases hx with hx | hx
        · exact hn x hx
        · rw [hx]; exact he)
      refine Ev.step (fun k => ?_) h
      simp only [carouselref18_Has.l0]
      rw [if_pos (by omega), if_pos (by omega), hrd, if_neg he, show wrap64 ((j : Int) + 1) = ((j + 1 : Nat) : Int) from by unfold wrap64; omega]
theorem ev_has_f (l : List Int) (hl : l.length ≤ 100) (p : Int) : Ev (fun k => carouselref18_Has.f k l p) (decide (p ∈ l)) := ev_has l hl p _ 0 rfl (by omega) (by simp)
theorem mem_outs (a b : Bool) (i o : Int) : decide (o ∈ outs a b i) = dat a b i o := by
  by_cases h : o = 0 ∨ o = 1 ∨ o = 2
  · rcases h with rfl | rfl | rfl <;> unfold outs <;> cases h0 : dat a b i 0 <;> cases h1 : dat a b i 1 <;> cases h2 : dat a b i 2 <;> simp
  · have e1 : dat a b i o = false := by
      have : opn a b o = false := by unfold opn; rw [if_neg (by omega), if_neg (by omega), if_neg (by omega)]
      simp [dat, this]
    have e2 : ¬ o ∈ outs a b i := by
      unfold outs
      cases dat a b i 0 <;> cases dat a b i 1 <;> cases dat a b i 2 <;> simp <;> omega
    rw [e1, decide_eq_false e2]

theorem ev_j1 (a b : Bool) (i o : Int) (c : Bool) (hc : c = true ↔ (0 ≤ i ∧ i ≤ 1 ∧ 0 ≤ o ∧ o ≤ 1)) : Ev (fun k => carousellaw18_FilterPasses.j1 k i o (outs a b i) c a b) true := by
  have hh := ev_has_f (outs a b i) (by have := outs_len a b i; omega) o
  rw [mem_outs] at hh
  have er : (((i == 0 || i == 1) && ((o == 0 || o == 1) && dat a b i o)) == (if c = true then dat a b i o else false)) = true := by
    by_cases h : c = true
    · have h2 := hc.1 h
      have e1 : (i == 0 || i == 1) = true := by simp; omega
      have e2 : (o == 0 || o == 1) = true := by simp; omega
      rw [if_pos h, e1, e2]; simp
    · have h2 : ¬ (0 ≤ i ∧ i ≤ 1 ∧ 0 ≤ o ∧ o ≤ 1) := fun h3 => h (hc.2 h3)
      have e : ((i == 0 || i == 1) && (o == 0 || o == 1)) = false := by
        rw [Bool.eq_false_iff]
        intro h3
        simp at h3
        omega
      rw [if_neg h, ← Bool.and_assoc, e]; simp
  refine Ev.step (f := fun k => (carousellaw18_Awake.f k).bind fun t134 => (if t134 = true then ((carouselref18_Has.f k (outs a b i) o).bind fun t138 => (if (dat a b i o == t138) = true then (if c = true then ((carouselref18_Has.f k (outs a b i) o).bind fun t140 => (some (((i == 0 || i == 1) && ((o == 0 || o == 1) && dat a b i o)) == t140))) else (some (((i == 0 || i == 1) && ((o == 0 || o == 1) && dat a b i o)) == false))) else (some false))) else (some false))) (fun k => ?_) (Ev.bind fp_awake ?_)
  · simp only [carousellaw18_FilterPasses.j1, open_f, ropen_f, data_f, rings_f, Option.bind_some, beq_self_eq_true, if_true]
  · simp only [if_true]
    refine Ev.bind hh ?_
    simp only [beq_self_eq_true, if_true]
    by_cases h : c = true
    · rw [if_pos h] at er
      simp only [if_pos h]
      refine Ev.bind hh (Ev.congr (fun k => ?_) (Ev.now true))
      rw [er]
    · rw [if_neg h] at er
      simp only [if_neg h]
      refine Ev.congr (fun k => ?_) (Ev.now true)
      rw [er]
theorem ev_fp_loop (a b : Bool) (i o : Int) (d : Nat) : ∀ j : Nat, (outs a b i).length - j = d → j ≤ (outs a b i).length →
    Ev (fun k => carousellaw18_FilterPasses.l0 k i o (outs a b i) (outs a b i) ((outs a b i).length : Int) (j : Int) a b) true := by
  have hl := outs_len a b i
  induction d with
  | zero =>
    intro j hj hj2
    by_cases h1 : i ≥ 0
    · by_cases h2 : i ≤ 1
      · by_cases h3 : o ≥ 0
        · refine Ev.step (fun k => ?_) (ev_j1 a b i o (decide (o ≤ 1)) (by simp; omega))
          simp only [carousellaw18_FilterPasses.l0]
          rw [if_neg (by omega), if_pos h1, if_pos h2, if_pos h3]
        · refine Ev.step (fun k => ?_) (ev_j1 a b i o false (by simp; omega))
          simp only [carousellaw18_FilterPasses.l0]
          rw [if_neg (by omega), if_pos h1, if_pos h2, if_neg h3]
      · refine Ev.step (fun k => ?_) (ev_j1 a b i o false (by simp; omega))
        simp only [carousellaw18_FilterPasses.l0]
        rw [if_neg (by omega), if_pos h1, if_neg h2]
    · refine Ev.step (fun k => ?_) (ev_j1 a b i o false (by simp; omega))
      simp only [carousellaw18_FilterPasses.l0]
      rw [if_neg (by omega), if_neg h1]
  | succ d ih =>
    intro j hj hj2
    refine Ev.step (fun k => ?_) (ih (j + 1) (by omega) (by omega))
    simp only [carousellaw18_FilterPasses.l0]
    rw [if_pos (by omega), if_pos (by omega), if_pos (by omega), if_pos (by omega), if_pos trivial, show wrap64 ((j : Int) + 1) = ((j + 1 : Nat) : Int) from by unfold wrap64; omega]

theorem FilterPasses : carousellaw18_FilterPasses.Pure := by
  intro a b i o _ _
  have hgo : Ev (fun k => carousellaw18_FilterPasses.f k a b i o) true := by
    simp only [carousellaw18_FilterPasses.f]
    refine Ev.bind (ev_outs a b i) ?_
    refine Ev.bind (ev_routs a b i) ?_
    simp only [if_true]
    exact ev_fp_loop a b i o _ 0 rfl (by omega)
  exact hgo.rounds

end Go.Proofs.Ytmdaaphjndjakaa.Pure
