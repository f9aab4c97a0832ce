/- The law FilterBoth holds: data pass both ways, or neither; with a shut ring port no message passes; with none both pass: for every input. -/
import Derived.Test.YtmdaaphjndjakaaPAllx5
namespace Go.Proofs.Ytmdaaphjndjakaa.Pure
open Go.RowKit Go.Proofs.Ytmdaaphjndjakaa.PAll Go.Proofs.YtmdaaphjndjakaaW.PrintWords Go.Proofs.YtmdaaphjndjakaaW.PrintLast Go.Proofs.YtmdaaphjndjakaaW.PrintMore Go.Proofs.Ytmdaaphjndjakaa
set_option linter.unusedVariables false

theorem fb_awake : Ev (fun k => carousellaw18_Awake.f k) true :=
  Ev.of carousellaw18_Awake.mono (k := 20) (by decide +kernel)
/-- Is a port open? -/
def fbOpen (a b : Bool) (p : Int) : Bool := if p = 2 then true else if p = 0 then !a else if p = 1 then !b else false
/-- Do data pass? -/
def fbData (a b : Bool) (i o : Int) : Bool := (i != o) && (fbOpen a b i && fbOpen a b o)
/-- Do messages pass? -/
def fbRing (a b : Bool) (i o : Int) : Bool := (i == 0 || i == 1) && ((o == 0 || o == 1) && fbData a b i o)
theorem fb_open_f (a b : Bool) (p : Int) : filter_Open.f a b p = some (fbOpen a b p) := rfl
theorem fb_data_f (a b : Bool) (i o : Int) : filter_Data.f a b i o = some (fbData a b i o) := by
  unfold filter_Data.f fbData
  rw [fb_open_f, fb_open_f]
  by_cases h : i = o
  · simp [h]
  · rw [if_neg h]
    simp only [Option.bind_some]
    cases fbOpen a b i <;> simp [h]
theorem fb_ring_f (p : Int) : filter_ring.f p = some (p == 0 || p == 1) := by
  unfold filter_ring.f
  by_cases h : p = 0
  · simp [h]
  · rw [if_neg h]; simp [h]
theorem fb_rings_f (a b : Bool) (i o : Int) : filter_Ring.f a b i o = some (fbRing a b i o) := by
  unfold filter_Ring.f fbRing
  rw [fb_ring_f, fb_ring_f, fb_data_f]
  simp only [Option.bind_some]
  cases (i == 0 || i == 1) <;> cases (o == 0 || o == 1) <;> simp
theorem fb_data_comm (a b : Bool) (i o : Int) : fbData a b i o = fbData a b o i := by
  unfold fbData
  have : (i != o) = (o != i) := by
    by_cases h : i = o
    · rw [h]
    · have h2 : ¬ o = i := fun e => h e.symm
      rw [(bne_iff_ne).2 h, (bne_iff_ne).2 h2]
  rw [this, Bool.and_comm (fbOpen a b i)]
theorem fb_ring_comm (a b : Bool) (i o : Int) : fbRing a b i o = fbRing a b o i := by
  unfold fbRing
  rw [fb_data_comm a b i o]
  cases (i == 0 || i == 1) <;> cases (o == 0 || o == 1) <;> simp
theorem fb_self (a b : Bool) (i : Int) : fbData a b i i = false := by unfold fbData; simp
theorem fb_01 (a b : Bool) : fbRing a b 0 1 = (!a && !b) := by cases a <;> cases b <;> decide
theorem fb_shut (a b : Bool) (h : a = true ∨ b = true) (i o : Int) : fbRing a b i o = false := by
  rw [Bool.eq_false_iff]
  intro hr
  unfold fbRing fbData at hr
  simp only [Bool.and_eq_true, Bool.or_eq_true, beq_iff_eq, bne_iff_ne] at hr
  obtain ⟨hi, ho, hne, h1, h2⟩ := hr
  have hc : (i = 0 ∧ o = 1) ∨ (i = 1 ∧ o = 0) := by omega
  rcases hc with ⟨rfl, rfl⟩ | ⟨rfl, rfl⟩ <;> rcases h with rfl | rfl <;> simp [fbOpen] at h1 h2

theorem FilterBoth : carousellaw18_FilterBoth.Pure := by
  intro a b i o _ _
  have hj : Ev (fun k => carousellaw18_FilterBoth.j0 k a b i o false a b) true := by
    refine Ev.step (f := fun k => (carousellaw18_Awake.f k).bind fun t146 => (if t146 = true then some true else some false)) (fun k => ?_) (Ev.bind fb_awake ?_)
    · simp only [carousellaw18_FilterBoth.j0]
      rw [if_neg (by simp)]
      refine congrArg (fun g => (carousellaw18_Awake.f k).bind g) (funext fun t => ?_)
      cases t with
      | false => rfl
      | true =>
        simp only [if_true, fb_rings_f, fb_data_f, Option.bind_some, fb_self, fb_01]
        cases a with
        | true => rw [fb_shut true b (.inl rfl)]; simp
        | false =>
          cases b with
          | true => rw [fb_shut false true (.inr rfl)]; simp
          | false => simp
    · simp only [if_true]
      exact Ev.now true
  have hgo : Ev (fun k => carousellaw18_FilterBoth.f k a b i o) true := by
    refine Ev.congr (fun k => ?_) hj
    unfold carousellaw18_FilterBoth.f
    simp only [fb_rings_f, fb_data_f, Option.bind_some]
    rw [fb_data_comm a b i o, fb_ring_comm a b i o]
    simp
  exact hgo.rounds

end Go.Proofs.Ytmdaaphjndjakaa.Pure
