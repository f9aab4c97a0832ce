/- The law EventCloses holds: the bytes of any events, or what is wrong, and a kind's word, are the document's: for every input. -/
import Derived.Test.YtkjjdphlfbecdaaPEventClosesx1
-- merged out of the texts of this work that it leads to

/- Events: few and small; the law's own beginnings, as printed. -/
namespace Go.Proofs.Ytkjjdphlfbecdaa.LEventCloses
open Go.RowKit Go.Proofs.Ytkjjdphlfbecdaa.PEventCloses Go.Proofs.YtkjjdphlfbecdaaW.PrintWords Go.Proofs.YtkjjdphlfbecdaaW.PrintLast Go.Proofs.YtkjjdphlfbecdaaW.PrintMore Go.Proofs.Ytkjjdphlfbecdaa
set_option linter.unusedVariables false
set_option linter.unusedSimpArgs false
theorem ew_id {n : Int} (h0 : -9223372036854775808 ≤ n) (h1 : n ≤ 9223372036854775807) : wrap64 n = n := by unfold wrap64; omega
def fewB (l : List S28) : Bool := (l.all fun x => decide ((x.f4.size : Int) ≤ 2000)) && decide ((l.length : Int) ≤ 60)
theorem rd_drop (l : List S28) (k : Nat) (h : k < l.length) : l.drop k = rd_T28 l (k : Int) :: l.drop (k + 1) := by
  rw [List.drop_eq_getElem_cons h]
  simp [rd_T28, List.getD_eq_getElem?_getD, List.getElem?_eq_getElem h]
theorem ev_few_loop (l : List S28) (hl : l.length ≤ 10000000000000) (d : Nat) : ∀ k : Nat, k + d = l.length → Ev (fun n => carousellaw22_Few.l0 n l l (l.length : Int) (k : Int)) (((l.drop k).all fun x => decide ((x.f4.size : Int) ≤ 2000)) && decide ((l.length : Int) ≤ 60)) := by
  induction d with
  | zero =>
    intro k hk
    refine Ev.step (f := fun _ => some (((l.drop k).all fun x => decide ((x.f4.size : Int) ≤ 2000)) && decide ((l.length : Int) ≤ 60))) (fun n => ?_) (Ev.now _)
    simp only [carousellaw22_Few.l0]
    rw [if_neg (by omega), List.drop_of_length_le (by omega)]
    simp
  | succ d ih =>
    intro k hk
    have hk2 : k < l.length := by omega
    rw [rd_drop l k hk2, List.all_cons]
    by_cases hb : ((rd_T28 l (k : Int)).f4.size : Int) > 2000
    · refine Ev.step (f := fun _ => some (((decide (((rd_T28 l (k : Int)).f4.size : Int) ≤ 2000)) && ((l.drop (k + 1)).all fun x => decide ((x.f4.size : Int) ≤ 2000))) && decide ((l.length : Int) ≤ 60))) (fun n => ?_) (Ev.now _)
      simp only [carousellaw22_Few.l0]
      rw [if_pos (by omega), if_pos (by omega), if_pos (by omega), if_pos hb, decide_eq_false (by omega)]
      rfl
    · rw [decide_eq_true (show ((rd_T28 l (k : Int)).f4.size : Int) ≤ 2000 by omega), Bool.true_and]
      refine Ev.step (fun n => ?_) (ih (k + 1) (by omega))
      simp only [carousellaw22_Few.l0]
      rw [if_pos (by omega), if_pos (by omega), if_pos (by omega), if_neg hb, ew_id (by omega) (by omega)]
      rfl
theorem ev_few (l : List S28) (hl : l.length ≤ 10000000000000) : Ev (fun n => carousellaw22_Few.f n l) (fewB l) :=
  ev_few_loop l hl l.length 0 (by omega)
theorem few_len {l : List S28} (h : fewB l = true) : l.length ≤ 60 ∧ ∀ x ∈ l, x.f4.size ≤ 2000 := by
  unfold fewB at h
  rw [Bool.and_eq_true] at h
  refine ⟨by have := of_decide_eq_true h.2; omega, fun x hx => ?_⟩
  have := of_decide_eq_true (List.all_eq_true.1 h.1 x hx)
  omega
theorem ev_awake : carousellaw22_Awake.f = some true := by decide +kernel
theorem ev_word (a : Int) (h0 : 0 ≤ a) (h1 : a ≤ 255) : carouselref22_Word.f a = some (Gv.evWord a) := by
  by_cases h : a ≤ 7
  · have hc : a = 0 ∨ a = 1 ∨ a = 2 ∨ a = 3 ∨ a = 4 ∨ a = 5 ∨ a = 6 ∨ a = 7 := by omega
    rcases hc with rfl | rfl | rfl | rfl | rfl | rfl | rfl | rfl <;> rfl
  · unfold carouselref22_Word.f Gv.evWord
    rw [Option.bind_some, if_neg (by omega), if_pos (by omega), if_neg (by omega), if_neg (by omega), if_neg (by omega), if_neg (by omega), if_neg (by omega), if_neg (by omega), if_neg (by omega), if_neg (by omega)]
theorem u8in {n : Int} (h : (Lit.int .u8 n).wf = true) : 0 ≤ n ∧ n ≤ 255 := by
  have hm : IntKind.u8.min = 0 := rfl
  have hx : IntKind.u8.max = 255 := rfl
  simp only [Lit.wf, Bool.and_eq_true, decide_eq_true_eq, hm, hx] at h
  exact h
def InU (x : S28) : Prop := (0 ≤ x.f0 ∧ x.f0 ≤ 255) ∧ (0 ≤ x.f1 ∧ x.f1 ≤ 255) ∧ (0 ≤ x.f2 ∧ x.f2 ≤ 255) ∧ (0 ≤ x.f3 ∧ x.f3 ≤ 255)
end Go.Proofs.Ytkjjdphlfbecdaa.LEventCloses

/- Events: what the printed Close functions come to. -/
namespace Go.Proofs.Ytkjjdphlfbecdaa.LEventCloses
open Go.RowKit Go.Proofs.Ytkjjdphlfbecdaa.PEventCloses Go.Proofs.YtkjjdphlfbecdaaW.PrintWords Go.Proofs.YtkjjdphlfbecdaaW.PrintLast Go.Proofs.YtkjjdphlfbecdaaW.PrintMore Go.Proofs.Ytkjjdphlfbecdaa
set_option linter.unusedVariables false
set_option linter.unusedSimpArgs false
theorem close_f (l : List S28) (hl : l.length ≤ 1000000) (h : ∀ x ∈ l, InU x) : event_Close.f l = some (Gv.evClose (l.map event_Close.tup)) := by
  unfold event_Close.f
  exact if_pos ⟨hl, List.all_eq_true.2 fun x hx => decide_eq_true (by have := h x hx; unfold InU at this; omega)⟩
def to30 (x : S28) : S30 := ⟨x.f0, x.f1, x.f2, x.f3, x.f4⟩
theorem ref_f (l : List S28) (hl : l.length ≤ 1000000) (h : ∀ x ∈ l, InU x) : carouselref22_Close.f (l.map to30) = some (Gv.evClose (l.map event_Close.tup)) := by
  have hm : (l.map to30).map carouselref22_Close.tup = l.map event_Close.tup := by rw [List.map_map]; rfl
  unfold carouselref22_Close.f
  rw [hm]
  refine if_pos ⟨by rw [List.length_map]; exact hl, List.all_eq_true.2 fun x hx => decide_eq_true ?_⟩
  obtain ⟨y, hy, rfl⟩ := List.mem_map.1 hx
  have := h y hy
  unfold InU at this
  show 0 ≤ y.f0 ∧ y.f0 ≤ 255 ∧ 0 ≤ y.f1 ∧ y.f1 ≤ 255 ∧ 0 ≤ y.f2 ∧ y.f2 ≤ 255 ∧ 0 ≤ y.f3 ∧ y.f3 ≤ 255
  omega
end Go.Proofs.Ytkjjdphlfbecdaa.LEventCloses

namespace Go.Proofs.Ytkjjdphlfbecdaa.Pure
open Go.RowKit Go.Proofs.Ytkjjdphlfbecdaa.PEventCloses Go.Proofs.YtkjjdphlfbecdaaW.PrintWords Go.Proofs.YtkjjdphlfbecdaaW.PrintLast Go.Proofs.YtkjjdphlfbecdaaW.PrintMore Go.Proofs.Ytkjjdphlfbecdaa Go.Proofs.Ytkjjdphlfbecdaa.LEventCloses
set_option linter.unusedVariables false
set_option linter.unusedSimpArgs false
theorem ec_loop (l : List S28) (a : Int) (hl : l.length ≤ 60) (h : ∀ x ∈ l, InU x) (ha0 : 0 ≤ a) (ha1 : a ≤ 255) (d : Nat) : ∀ k : Nat, k + d = l.length → Ev (fun n => carousellaw22_EventCloses.l0 n l a ((l.take k).map to30) l (l.length : Int) (k : Int)) true := by
  induction d with
  | zero =>
    intro k hk
    have hk2 : k = l.length := by omega
    subst hk2
    refine Ev.step (f := fun _ => some true) (fun n => ?_) (Ev.now _)
    simp only [carousellaw22_EventCloses.l0]
    rw [if_neg (by omega), List.take_length, close_f l (by omega) h, ref_f l (by omega) h, ev_awake, ew_id (by omega) (by omega), ev_word a ha0 ha1]
    simp only [Option.bind_some, if_true]
    rw [show event_Kind_String.f a = some (Gv.evWord a) from if_pos ha0]
    simp
  | succ d ih =>
    intro k hk
    have hk2 : k < l.length := by omega
    have ht : (l.take (k + 1)).map to30 = (l.take k).map to30 ++ [to30 (rd_T28 l (k : Int))] := by
      rw [List.take_succ_eq_append_getElem hk2, List.map_append]
      simp [rd_T28, List.getD_eq_getElem?_getD, List.getElem?_eq_getElem hk2]
    have hi := ih (k + 1) (by omega)
    rw [ht] at hi
    refine Ev.step (fun n => ?_) hi
    simp only [carousellaw22_EventCloses.l0, carousellaw22_Of.f, Option.bind_some]
    rw [if_pos (by omega), if_pos (by omega), if_pos (by omega), if_pos (by rw [List.length_map, List.length_take]; omega), ew_id (by omega) (by omega)]
    rfl
theorem EventCloses : carousellaw22_EventCloses.Pure := by
  intro l0 a1 hl hl2 hg ha
  refine Ev.rounds ?_
  have hlen : l0.length ≤ 10000000000000 := by unfold maxLen at hl; omega
  have ha2 : 0 ≤ a1 ∧ a1 ≤ 255 := u8in ha
  simp only [carousellaw22_EventCloses.f]
  refine Ev.bind (ev_few l0 hlen) ?_
  by_cases hf : fewB l0 = true
  · simp only [hf, if_true]
    have hin : ∀ x ∈ l0, InU x := by
      intro x hx
      have h := hg x hx
      exact ⟨u8in h.1, u8in h.2.1, u8in h.2.2.1, u8in h.2.2.2.1⟩
    exact ec_loop l0 a1 (few_len hf).1 hin ha2.1 ha2.2 l0.length 0 (by omega)
  · simp only [hf]
    refine Ev.congr (fun k => ?_) (Ev.now _)
    rw [ev_awake]
    rfl
end Go.Proofs.Ytkjjdphlfbecdaa.Pure
