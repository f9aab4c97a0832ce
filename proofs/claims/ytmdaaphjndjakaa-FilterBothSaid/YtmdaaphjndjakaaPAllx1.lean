-- Written by a program of this work, after the translation.
import Derived.Test.YtmdaaphjndjakaaPAllx0
namespace Go.Proofs.Ytmdaaphjndjakaa.PAll
open Go.RowKit Go.Proofs.YtmdaaphjndjakaaW.PrintWords Go.Proofs.YtmdaaphjndjakaaW.PrintLast Go.Proofs.YtmdaaphjndjakaaW.PrintMore
attribute [local go_sem] max2_int min2_int max_two min_two max_three min_three max_four min_four   -- for this text's walks alone
set_option linter.unusedVariables false
set_option linter.unusedSimpArgs false

/-! ### filter_ring: function 33 -/
def filter_ring.f (a0 : Int) : Option (Bool) := if a0 = 0 then (some true) else (some (a0 == 1))
set_option maxHeartbeats 8000000 in
set_option maxRecDepth 100000 in
theorem filter_ring.calls (a0 : Int) (r : Bool) (w : World) (h : filter_ring.f a0 = some r) :
    Calls Try.prog 33 #[.int .i64 a0] w fun e w' => e = .returned (.bool r) ∧ Drawn0 w w' := by
  have H : (if a0 = 0 then (some true) else (some (a0 == 1))) = some r := h
  clear h
  by_cases c2 : a0 = 0
  · rw [if_pos c2] at H
    have c2b0 : (a0 == 0) = true := beq_iff_eq.mpr c2
    have c2b1 : (a0 != 0) = false := bne_eq_false_iff_eq.mpr c2
    clear c2
    obtain rfl := Option.some.inj H
    go_enter Try.func33, Try.ntmps33
    go_wp2
    go_ret
    exact ⟨by first | rfl | (simp; done) | (simp [*]; done), by repeat (first | exact Drawn0.refl _ | apply Drawn0.step)⟩
  · rw [if_neg c2] at H
    have c2b0 : (a0 == 0) = false := beq_eq_false_iff_ne.mpr c2
    have c2b1 : (a0 != 0) = true := bne_iff_ne.mpr c2
    obtain rfl := Option.some.inj H
    go_enter Try.func33, Try.ntmps33
    go_wp2
    go_ret
    exact ⟨by first | rfl | (simp; done) | (simp [*]; done), by repeat (first | exact Drawn0.refl _ | apply Drawn0.step)⟩

/-! ### filter_Open: function 12 (given: its walk is in another text) -/

def filter_Open.f (a0_0 : Bool) (a0_1 : Bool) (a1 : Int) : Option (Bool) := some (if a1 = 2 then true else if a1 = 0 then !a0_0 else if a1 = 1 then !a0_1 else false)
set_option maxHeartbeats 4000000 in
set_option maxRecDepth 100000 in
theorem filter_Open.calls (a0_0 : Bool) (a0_1 : Bool) (a1 : Int) (r : Bool) (w : World) (h : filter_Open.f a0_0 a0_1 a1 = some r) :
    Calls Try.prog 12 #[.agg #[.bool a0_0, .bool a0_1], .int .i64 a1] w fun e w' => e = .returned (.bool r) ∧ Below w.heap.size w w' := by
  obtain rfl := Option.some.inj h
  clear h
  have hu22 := Try.underlying22
  by_cases c2 : a1 = 2
  · subst c2
    go_enter Try.func12, Try.ntmps12
    go_wp2
    exact bodyPost_ret (v := .bool true) (by simp [results, Try.results12, go_sem]) rfl ⟨rfl, (Below.refl _ _).alloc (Nat.le_refl _) _⟩
  by_cases c0 : a1 = 0
  · subst c0
    go_enter Try.func12, Try.ntmps12
    go_wp2_with (go_at_call 33; refine (filter_ring.calls 0 true _ rfl).mono ?_; rintro e' w1 ⟨rfl, hw⟩; have hBW := ((Below.refl w.heap.size w).alloc (Nat.le_refl _) _).trans (hw.below.mono (by simp)); obtain ⟨⟨n, rfl⟩⟩ := hw; have hB := blk_drewN (blk_new w (.cells #[.bool a0_0, .bool a0_1] 22)) n; have hz0 := (blk_cell hB 0).trans rfl; have hz1 := (blk_cell hB 1).trans rfl)
    exact bodyPost_ret (v := .bool (!a0_0)) (by simp [results, Try.results12, go_sem]) rfl ⟨by simp, hBW⟩
  by_cases c1 : a1 = 1
  · subst c1
    go_enter Try.func12, Try.ntmps12
    go_wp2_with (go_at_call 33; refine (filter_ring.calls 1 true _ rfl).mono ?_; rintro e' w1 ⟨rfl, hw⟩; have hBW := ((Below.refl w.heap.size w).alloc (Nat.le_refl _) _).trans (hw.below.mono (by simp)); obtain ⟨⟨n, rfl⟩⟩ := hw; have hB := blk_drewN (blk_new w (.cells #[.bool a0_0, .bool a0_1] 22)) n; have hz0 := (blk_cell hB 0).trans rfl; have hz1 := (blk_cell hB 1).trans rfl)
    exact bodyPost_ret (v := .bool (!a0_1)) (by simp [results, Try.results12, go_sem]) rfl ⟨by simp, hBW⟩
  · have e2 : (a1 == 2) = false := by simpa using c2
    go_enter Try.func12, Try.ntmps12
    go_wp2_with (go_at_call 33; refine (filter_ring.calls a1 false _ (by unfold filter_ring.f; rw [if_neg c0]; simp [c1])).mono ?_; rintro e' w1 ⟨rfl, hw⟩; have hBW := ((Below.refl w.heap.size w).alloc (Nat.le_refl _) _).trans (hw.below.mono (by simp)))
    exact bodyPost_ret (v := .bool false) (by simp [results, Try.results12, go_sem]) rfl ⟨by simp [c0, c1, c2], hBW⟩


/-! ### filter_Data: function 14 -/
def filter_Data.f (a0_0 : Bool) (a0_1 : Bool) (a1 : Int) (a2 : Int) : Option (Bool) := if a1 = a2 then (some false) else ((filter_Open.f a0_0 a0_1 a1).bind fun t102 => (if t102 = true then ((filter_Open.f a0_0 a0_1 a2).bind fun t103 => (some t103)) else (some false)))
set_option maxHeartbeats 8000000 in
set_option maxRecDepth 100000 in
theorem filter_Data.calls (a0_0 : Bool) (a0_1 : Bool) (a1 : Int) (a2 : Int) (r : Bool) (w : World) (h : filter_Data.f a0_0 a0_1 a1 a2 = some r) :
    Calls Try.prog 14 #[.agg #[.bool a0_0, .bool a0_1], .int .i64 a1, .int .i64 a2] w fun e w' => e = .returned (.bool r) ∧ Below w.heap.size w w' := by
  have hu22 := Try.underlying22
  have HB := Aside0.mk (Below.refl w.heap.size w)
  have H : (if a1 = a2 then (some false) else ((filter_Open.f a0_0 a0_1 a1).bind fun t102 => (if t102 = true then ((filter_Open.f a0_0 a0_1 a2).bind fun t103 => (some t103)) else (some false)))) = some r := h
  clear h
  by_cases c4 : a1 = a2
  · rw [if_pos c4] at H
    have c4b0 : (a1 == a2) = true := beq_iff_eq.mpr c4
    have c4b1 : (a1 != a2) = false := bne_eq_false_iff_eq.mpr c4
    clear c4
    obtain rfl := Option.some.inj H
    go_enter Try.func14, Try.ntmps14
    go_wp2_with (first | ((with_reducible refine gate_dst (N := 3) rfl ?_); refine box_event ?hg (N := 3) ?hd (cs := #[.bool a0_0, .bool a0_1]) (t := 22) ?hr ?_; (case hd => rfl); (case hg => rfl); (case hr => first | (go_simp; done) | (go_simp; rfl)); intro gb101 hg w5 hbox hb; have n0_ := Aside0.mk (below_step (by repeat (first | (with_reducible first | exact HB.out | apply below_alloc | apply pw_below_drewN | apply below_drew1) | exact HB.out)) hb); have n1_ := Aside0.mk (hbox); have n2_ := Aside0.mk ((by rw [hg]; exact (below_size (by repeat (first | (with_reducible first | exact HB.out | apply below_alloc | apply pw_below_drewN | apply below_drew1) | exact HB.out))) : w.heap.size ≤ gb101)); have n3_ := Aside0.mk ((by rw [hg]; exact (below_size (by repeat (first | (with_reducible first | exact HB.out | apply below_alloc | apply pw_below_drewN | apply below_drew1) | exact HB.out))) : w.heap.size ≤ gb101)); clear HB; have HB := n0_; have BK101 := n1_; have GW101 := n2_; have GE101 := n3_; clear n0_ n1_ n2_ n3_; clear hb hbox hg))
    go_ret
    exact ⟨by first | rfl | (simp [errW_none, errW_some] <;> rfl) | (simp [*, errW_none, errW_some] <;> rfl), by repeat (first | (with_reducible first | exact HB.out | apply below_alloc | apply pw_below_drewN | apply below_drew1 | refine below_set ?_ GE101.out) | exact HB.out)⟩
  · rw [if_neg c4] at H
    have c4b0 : (a1 == a2) = false := beq_eq_false_iff_ne.mpr c4
    have c4b1 : (a1 != a2) = true := bne_iff_ne.mpr c4
    replace H := Option.bind_eq_some_iff.mp H
    obtain ⟨t102, A60, H⟩ := H
    replace H : (if t102 = true then ((filter_Open.f a0_0 a0_1 a2).bind fun t103 => (some t103)) else (some false)) = some r := H
    have A6 := Aside0.mk A60
    clear A60
    by_cases c7 : t102 = true
    · subst c7
      have H1 : ((filter_Open.f a0_0 a0_1 a2).bind fun t103 => (some t103)) = some r := by rw [if_pos rfl] at H; exact H
      clear H
      have H := H1
      clear H1
      replace H := Option.bind_eq_some_iff.mp H
      obtain ⟨t103, A80, H⟩ := H
      replace H : (some t103) = some r := H
      have A8 := Aside0.mk A80
      clear A80
      obtain rfl := Option.some.inj H
      go_enter Try.func14, Try.ntmps14
      go_wp2_with (first | ((with_reducible refine gate_dst (N := 3) rfl ?_); refine box_event ?hg (N := 3) ?hd (cs := #[.bool a0_0, .bool a0_1]) (t := 22) ?hr ?_; (case hd => rfl); (case hg => rfl); (case hr => first | (go_simp; done) | (go_simp; rfl)); intro gb101 hg w9 hbox hb; have n0_ := Aside0.mk (below_step (by repeat (first | (with_reducible first | exact HB.out | apply below_alloc | apply pw_below_drewN | apply below_drew1) | exact HB.out)) hb); have n1_ := Aside0.mk (hbox); have n2_ := Aside0.mk ((by rw [hg]; exact (below_size (by repeat (first | (with_reducible first | exact HB.out | apply below_alloc | apply pw_below_drewN | apply below_drew1) | exact HB.out))) : w.heap.size ≤ gb101)); have n3_ := Aside0.mk ((by rw [hg]; exact (below_size (by repeat (first | (with_reducible first | exact HB.out | apply below_alloc | apply pw_below_drewN | apply below_drew1) | exact HB.out))) : w.heap.size ≤ gb101)); clear HB; have HB := n0_; have BK101 := n1_; have GW101 := n2_; have GE101 := n3_; clear n0_ n1_ n2_ n3_; clear hb hbox hg; have hcz10_0 : w9.cell? ⟨gb101, 0, none⟩ = some (.bool a0_0) := (blk_cell BK101.out 0).trans rfl; have hcz10_1 : w9.cell? ⟨gb101, 1, none⟩ = some (.bool a0_1) := (blk_cell BK101.out 1).trans rfl; have hfz10_0 := blk_frozen BK101.out 0; have hfz10_1 := blk_frozen BK101.out 1; have hsaz10_ : ∀ u, (w9.setCell ⟨gb101, 0, none⟩ u).cell? ⟨gb101, 1, none⟩ = some (.bool a0_1) := (fun u => Eq.trans (World.cell?_setCell_other _ _ _ _ (by intro he; cases he)) hcz10_1); have hsbz10_ : ∀ u v, ((w9.setCell ⟨gb101, 0, none⟩ u).setCell ⟨gb101, 1, none⟩ v).cell? ⟨gb101, 1, none⟩ = some v := (fun u v => World.cell?_setCell_same _ _ _ (hsaz10_ u))) | (go_at_call 12; (with_reducible refine (filter_Open.calls a0_0 a0_1 a1 true _ A6.out).mono ?_); rintro e w11 ⟨rfl, hb⟩; have n0_ := Aside0.mk (blk_below (g := gb101) (o := .cells #[.bool a0_0, .bool a0_1] 22 (0, 0)) (by (with_reducible repeat (first | refine blk_drewN ?_ _ | refine blk_drew ?_ | refine blk_alloc ?_ _)); exact BK101.out) hb); have n1_ := Aside0.mk (below_step (by repeat (first | (with_reducible first | exact HB.out | apply below_alloc | apply pw_below_drewN | apply below_drew1 | refine below_set ?_ GE101.out) | exact HB.out)) hb); clear BK101; clear HB; have BK101 := n0_; have HB := n1_; clear n0_ n1_; (try clear hb); (try clear hb2); (try clear hk); (try clear hi); have hcz12_0 : w11.cell? ⟨gb101, 0, none⟩ = some (.bool a0_0) := (blk_cell BK101.out 0).trans rfl; have hcz12_1 : w11.cell? ⟨gb101, 1, none⟩ = some (.bool a0_1) := (blk_cell BK101.out 1).trans rfl; have hfz12_0 := blk_frozen BK101.out 0; have hfz12_1 := blk_frozen BK101.out 1; have hsaz12_ : ∀ u, (w11.setCell ⟨gb101, 0, none⟩ u).cell? ⟨gb101, 1, none⟩ = some (.bool a0_1) := (fun u => Eq.trans (World.cell?_setCell_other _ _ _ _ (by intro he; cases he)) hcz12_1); have hsbz12_ : ∀ u v, ((w11.setCell ⟨gb101, 0, none⟩ u).setCell ⟨gb101, 1, none⟩ v).cell? ⟨gb101, 1, none⟩ = some v := (fun u v => World.cell?_setCell_same _ _ _ (hsaz12_ u))) | (go_at_call 12; (with_reducible refine (filter_Open.calls a0_0 a0_1 a2 t103 _ A8.out).mono ?_); rintro e w13 ⟨rfl, hb⟩; have n0_ := Aside0.mk (blk_below (g := gb101) (o := .cells #[.bool a0_0, .bool a0_1] 22 (0, 0)) (by (with_reducible repeat (first | refine blk_drewN ?_ _ | refine blk_drew ?_ | refine blk_alloc ?_ _)); exact BK101.out) hb); have n1_ := Aside0.mk (below_step (by repeat (first | (with_reducible first | exact HB.out | apply below_alloc | apply pw_below_drewN | apply below_drew1 | refine below_set ?_ GE101.out) | exact HB.out)) hb); clear BK101; clear HB; have BK101 := n0_; have HB := n1_; clear n0_ n1_; (try clear hb); (try clear hb2); (try clear hk); (try clear hi)))
      go_ret
      exact ⟨by first | rfl | (simp [errW_none, errW_some] <;> rfl) | (simp [*, errW_none, errW_some] <;> rfl), by repeat (first | (with_reducible first | exact HB.out | apply below_alloc | apply pw_below_drewN | apply below_drew1 | refine below_set ?_ GE101.out) | exact HB.out)⟩
    · replace c7 := Bool.eq_false_iff.mpr c7
      subst c7
      have H1 : (some false) = some r := by rw [if_neg (show ¬ (false = true) by decide)] at H; exact H
      clear H
      have H := H1
      clear H1
      obtain rfl := Option.some.inj H
      go_enter Try.func14, Try.ntmps14
      go_wp2_with (first | ((with_reducible refine gate_dst (N := 3) rfl ?_); refine box_event ?hg (N := 3) ?hd (cs := #[.bool a0_0, .bool a0_1]) (t := 22) ?hr ?_; (case hd => rfl); (case hg => rfl); (case hr => first | (go_simp; done) | (go_simp; rfl)); intro gb101 hg w14 hbox hb; have n0_ := Aside0.mk (below_step (by repeat (first | (with_reducible first | exact HB.out | apply below_alloc | apply pw_below_drewN | apply below_drew1) | exact HB.out)) hb); have n1_ := Aside0.mk (hbox); have n2_ := Aside0.mk ((by rw [hg]; exact (below_size (by repeat (first | (with_reducible first | exact HB.out | apply below_alloc | apply pw_below_drewN | apply below_drew1) | exact HB.out))) : w.heap.size ≤ gb101)); have n3_ := Aside0.mk ((by rw [hg]; exact (below_size (by repeat (first | (with_reducible first | exact HB.out | apply below_alloc | apply pw_below_drewN | apply below_drew1) | exact HB.out))) : w.heap.size ≤ gb101)); clear HB; have HB := n0_; have BK101 := n1_; have GW101 := n2_; have GE101 := n3_; clear n0_ n1_ n2_ n3_; clear hb hbox hg; have hcz15_0 : w14.cell? ⟨gb101, 0, none⟩ = some (.bool a0_0) := (blk_cell BK101.out 0).trans rfl; have hcz15_1 : w14.cell? ⟨gb101, 1, none⟩ = some (.bool a0_1) := (blk_cell BK101.out 1).trans rfl; have hfz15_0 := blk_frozen BK101.out 0; have hfz15_1 := blk_frozen BK101.out 1; have hsaz15_ : ∀ u, (w14.setCell ⟨gb101, 0, none⟩ u).cell? ⟨gb101, 1, none⟩ = some (.bool a0_1) := (fun u => Eq.trans (World.cell?_setCell_other _ _ _ _ (by intro he; cases he)) hcz15_1); have hsbz15_ : ∀ u v, ((w14.setCell ⟨gb101, 0, none⟩ u).setCell ⟨gb101, 1, none⟩ v).cell? ⟨gb101, 1, none⟩ = some v := (fun u v => World.cell?_setCell_same _ _ _ (hsaz15_ u))) | (go_at_call 12; (with_reducible refine (filter_Open.calls a0_0 a0_1 a1 false _ A6.out).mono ?_); rintro e w16 ⟨rfl, hb⟩; have n0_ := Aside0.mk (blk_below (g := gb101) (o := .cells #[.bool a0_0, .bool a0_1] 22 (0, 0)) (by (with_reducible repeat (first | refine blk_drewN ?_ _ | refine blk_drew ?_ | refine blk_alloc ?_ _)); exact BK101.out) hb); have n1_ := Aside0.mk (below_step (by repeat (first | (with_reducible first | exact HB.out | apply below_alloc | apply pw_below_drewN | apply below_drew1 | refine below_set ?_ GE101.out) | exact HB.out)) hb); clear BK101; clear HB; have BK101 := n0_; have HB := n1_; clear n0_ n1_; (try clear hb); (try clear hb2); (try clear hk); (try clear hi)))
      go_ret
      exact ⟨by first | rfl | (simp [errW_none, errW_some] <;> rfl) | (simp [*, errW_none, errW_some] <;> rfl), by repeat (first | (with_reducible first | exact HB.out | apply below_alloc | apply pw_below_drewN | apply below_drew1 | refine below_set ?_ GE101.out) | exact HB.out)⟩

/-! ### filter_Outs: function 9 -/
def filter_Outs.l0 : Nat → Int → List Int → Int → Bool → Bool → Option (List Int)
  | 0, _, _, _, _, _ => none
  | k + 1, x1, x5, x7, x105000, x105001 => if x7 < 3 then ((filter_Data.f x105000 x105001 x1 x7).bind fun t105 => (if t105 = true then (if x5.length < 17592186044416 then (filter_Outs.l0 k x1 (x5 ++ [x7]) (wrap64 (x7 + 1)) x105000 x105001) else (none)) else (filter_Outs.l0 k x1 x5 (wrap64 (x7 + 1)) x105000 x105001))) else (some x5)
def filter_Outs.f (k : Nat) (a0_0 : Bool) (a0_1 : Bool) (a1 : Int) : Option (List Int) := filter_Outs.l0 k a1 ([] : List Int) 0 a0_0 a0_1
theorem filter_Outs.mono_l : ∀ k, (∀ y0 y1 y2 y3 y4, LeO (filter_Outs.l0 k y0 y1 y2 y3 y4) (filter_Outs.l0 (k + 1) y0 y1 y2 y3 y4))
  | 0 => fun _ _ _ _ _ r h => by simp [filter_Outs.l0] at h
  | k + 1 => by
    have ih0 := filter_Outs.mono_l k
    · intro y0 y1 y2 y3 y4
      unfold filter_Outs.l0
      repeat' first
      | (with_reducible exact ih0 _ _ _ _ _)
      | (with_reducible exact LeO.refl _)
      | (with_reducible exact LeO.none _)
      | (with_reducible refine LeO.ite ?_ ?_)
      | (with_reducible refine LeO.bind ?_ (fun _ => ?_))
      | exact ih0 _ _ _ _ _
      | exact LeO.none _
      | refine LeO.ite ?_ ?_
      | refine LeO.bind ?_ (fun _ => ?_)
theorem filter_Outs.mono : ∀ a0 a1 a2 k, LeO (filter_Outs.f k a0 a1 a2) (filter_Outs.f (k + 1) a0 a1 a2) := by
  intro a0 a1 a2 k
  have ih0 := filter_Outs.mono_l k
  unfold filter_Outs.f
  repeat' first
      | (with_reducible exact ih0 _ _ _ _ _)
      | (with_reducible exact LeO.refl _)
      | (with_reducible exact LeO.none _)
      | (with_reducible refine LeO.ite ?_ ?_)
      | (with_reducible refine LeO.bind ?_ (fun _ => ?_))
      | exact ih0 _ _ _ _ _
      | exact LeO.none _
      | refine LeO.ite ?_ ?_
      | refine LeO.bind ?_ (fun _ => ?_)
set_option maxHeartbeats 8000000 in
set_option maxRecDepth 100000 in
theorem filter_Outs.calls (k : Nat) (a0_0 : Bool) (a0_1 : Bool) (a1 : Int) (r : List Int) (w : World) (h : filter_Outs.f k a0_0 a0_1 a1 = some r) :
    Calls Try.prog 9 #[.agg #[.bool a0_0, .bool a0_1], .int .i64 a1] w fun e w' => ∃ v0_ : Value, e = .returned (v0_) ∧ Kd.R (Kd.int .i64) 3 w' w.heap.size (fun _ => True) v0_ r ∧ Below w.heap.size w w' := by
  have hu22 := Try.underlying22
  have HB := Aside0.mk (Below.refl w.heap.size w)
  have H : (filter_Outs.l0 k a1 ([] : List Int) 0 a0_0 a0_1) = some r := h
  clear h
  have H' := Aside0.mk H
  clear H
  go_enter Try.func9, Try.ntmps9
  go_wp2_with (first | ((with_reducible refine gate_dst (N := 2) rfl ?_); refine box_event ?hg (N := 2) ?hd (cs := #[.bool a0_0, .bool a0_1]) (t := 22) ?hr ?_; (case hd => rfl); (case hg => rfl); (case hr => first | (go_simp; done) | (go_simp; rfl)); intro gb104 hg w3 hbox hb; have n0_ := Aside0.mk (below_step (by repeat (first | (with_reducible first | exact HB.out | apply below_alloc | apply pw_below_drewN | apply below_drew1) | exact HB.out)) hb); have n1_ := Aside0.mk (hbox); have n2_ := Aside0.mk ((by rw [hg]; exact (below_size (by repeat (first | (with_reducible first | exact HB.out | apply below_alloc | apply pw_below_drewN | apply below_drew1) | exact HB.out))) : w.heap.size ≤ gb104)); have n3_ := Aside0.mk ((by rw [hg]; exact (below_size (by repeat (first | (with_reducible first | exact HB.out | apply below_alloc | apply pw_below_drewN | apply below_drew1) | exact HB.out))) : w.heap.size ≤ gb104)); clear HB; have HB := n0_; have BK104 := n1_; have GW104 := n2_; have GE104 := n3_; clear n0_ n1_ n2_ n3_; clear hb hbox hg))
  go_loopg [5, 7] k (fun kq v5 v7 w' => ∃ (x5_1 : List Int) (x7_1 : Int), v7 = .int .i64 x7_1 ∧ Aside0 (filter_Outs.l0 kq a1 x5_1 x7_1 a0_0 a0_1 = some r) ∧ Aside0 (kq ≤ k) ∧ Aside0 (Kd.R (Kd.int .i64) 3 w' w.heap.size (fun _ => True) v5 x5_1) ∧ Aside0 (w'.heap[gb104]? = some (.cells #[.bool a0_0, .bool a0_1] 22 (0, 0))) ∧ Aside0 (Below w.heap.size w w'))
  case atStart => exact ⟨(([] : List Int)), (0), (by first | rfl | (simp; done) | (simp [*]; done)), H', ⟨Nat.le_refl _⟩, ⟨by first | exact Kd.R_nil _ _ _ _ _ | exact Kd.N_nil _ _ _ _ _ | exact Kd.V_nil _ _ _ _ _ | exact Kd.Q_nil _ _ _ _ _ | exact Kd.S_nil _ _ _ _ _⟩, ⟨by (with_reducible repeat (first | refine blk_drewN ?_ _ | refine blk_drew ?_ | refine blk_alloc ?_ _)); exact BK104.out⟩, ⟨by repeat (first | (with_reducible first | exact HB.out | apply below_alloc | apply pw_below_drewN | apply below_drew1 | refine below_set ?_ GE104.out) | exact HB.out)⟩⟩
  case round =>
    clear H'
    try clear p2
    obtain ⟨x5_1, x7_1, rfl, HA, HK1, HO_5, BK104, HB⟩ := hrel
    cases gk with
    | zero => exact absurd HA.out (by simp [filter_Outs.l0])
    | succ k1 =>
      have H := HA.out
      clear HA
      simp only [filter_Outs.l0] at H
      by_cases c4 : x7_1 < 3
      · rw [if_pos c4] at H
        have c4b0 : decide (x7_1 < 3) = true := decide_eq_true c4
        clear c4
        replace H := Option.bind_eq_some_iff.mp H
        obtain ⟨t105, A50, H⟩ := H
        replace H : (if t105 = true then (if x5_1.length < 17592186044416 then (filter_Outs.l0 k1 a1 (x5_1 ++ [x7_1]) (wrap64 (x7_1 + 1)) a0_0 a0_1) else (none)) else (filter_Outs.l0 k1 a1 x5_1 (wrap64 (x7_1 + 1)) a0_0 a0_1)) = some r := H
        have A5 := Aside0.mk A50
        clear A50
        by_cases c6 : t105 = true
        · subst c6
          have H1 : (if x5_1.length < 17592186044416 then (filter_Outs.l0 k1 a1 (x5_1 ++ [x7_1]) (wrap64 (x7_1 + 1)) a0_0 a0_1) else (none)) = some r := by rw [if_pos rfl] at H; exact H
          clear H
          have H := H1
          clear H1
          by_cases c7 : x5_1.length < 17592186044416
          · rw [if_pos c7] at H
            have LMc7 := Aside0.mk c7
            clear c7
            obtain ⟨y106, hy106⟩ : ∃ y_ : List Int, y_ = (x5_1 ++ [x7_1]) := ⟨_, rfl⟩
            replace H : (filter_Outs.l0 k1 a1 y106 (wrap64 (x7_1 + 1)) a0_0 a0_1) = some r := by first | (rw [hy106]; with_reducible exact H) | (have H2_ := (Option.bind_some _ _).symm.trans H; rw [hy106]; with_reducible exact H2_) | (have H2_ := (Option.bind_some _ _).symm.trans H; with_reducible exact H2_) | with_reducible exact H | (rw [hy106]; exact H) | exact H
            have Ny106 := Aside0.mk hy106
            clear hy106
            have H' := Aside0.mk H
            clear H
            have hcz8_0 : wr.cell? ⟨gb104, 0, none⟩ = some (.bool a0_0) := (blk_cell BK104.out 0).trans rfl
            have hcz8_1 : wr.cell? ⟨gb104, 1, none⟩ = some (.bool a0_1) := (blk_cell BK104.out 1).trans rfl
            have hfz8_0 := blk_frozen BK104.out 0
            have hfz8_1 := blk_frozen BK104.out 1
            have hsaz8_ : ∀ u, (wr.setCell ⟨gb104, 0, none⟩ u).cell? ⟨gb104, 1, none⟩ = some (.bool a0_1) := (fun u => Eq.trans (World.cell?_setCell_other _ _ _ _ (by intro he; cases he)) hcz8_1)
            have hsbz8_ : ∀ u v, ((wr.setCell ⟨gb104, 0, none⟩ u).setCell ⟨gb104, 1, none⟩ v).cell? ⟨gb104, 1, none⟩ = some v := (fun u v => World.cell?_setCell_same _ _ _ (hsaz8_ u))
            go_wp2_with (first | ((with_reducible refine gate_callee (f := 14) rfl ?_); refine goesL_ (some 13) rfl rfl Try.func14 (by kernel_rfl) rfl #[.agg #[.bool a0_0, .bool a0_1], .int .i64 a1, .int .i64 x7_1] rfl (by (try simp only [List.map_toArray, List.map_cons, List.map_nil]); first | done | rfl | (simp only [List.length_drop, List.length_take]; rfl)) ?_; (with_reducible refine (filter_Data.calls a0_0 a0_1 a1 x7_1 true _ A5.out).mono ?_); rintro e w9 ⟨rfl, hb⟩; refine ⟨_, rfl, ?_⟩; have n0_ := Aside0.mk (Kd.R_below (by (with_reducible repeat (first | apply Kd.R_alloc | apply Kd.R_drewN | apply Kd.R_drew)); exact HO_5.out) hb); have n1_ := Aside0.mk (blk_below (g := gb104) (o := .cells #[.bool a0_0, .bool a0_1] 22 (0, 0)) (by (with_reducible repeat (first | refine blk_drewN ?_ _ | refine blk_drew ?_ | refine blk_alloc ?_ _)); exact BK104.out) hb); have n2_ := Aside0.mk (below_step (by repeat (first | (with_reducible first | exact HB.out | apply below_alloc | apply pw_below_drewN | apply below_drew1 | refine below_set ?_ GE104.out) | exact HB.out)) hb); clear HO_5; clear BK104; clear HB; have HO_5 := n0_; have BK104 := n1_; have HB := n2_; clear n0_ n1_ n2_; (try clear hb); (try clear hb2); (try clear hk); (try clear hi)) | ((with_reducible refine gate_builtin (b := .append) (xs := #[.tmp 14, .tmp 16]) rfl ?_); at_builtin; refine Kd.R_append (Kd.int .i64) (w0 := w) w.heap.size rfl (.tmp 14) (.tmp 16) 23 3 (.int .i64 0) 8 rfl Try.underlying23 info3 rfl (by decide) (by omega) u5 x5_1 x7_1 [.int .i64 x7_1] (fun _ => True) (fun _ => False) rfl rfl ?aP (fun _ hk => hk.elim) ?aF ?aO ?aB ?aS ?aL ?_; (case aP => exact rfl); (case aB => exact (by repeat (first | (with_reducible first | exact HB.out | apply below_alloc | apply pw_below_drewN | apply below_drew1 | refine below_set ?_ GE104.out) | exact HB.out))); (case aF => exact (fun _ _ => trivial)); (case aO => exact (by (with_reducible repeat (first | apply Kd.R_alloc | apply Kd.R_drewN | apply Kd.R_drew)); exact HO_5.out)); (case aS => exact (below_size (by repeat (first | (with_reducible first | exact HB.out | apply below_alloc | apply pw_below_drewN | apply below_drew1 | refine below_set ?_ GE104.out) | exact HB.out)))); (case aL => have := LMc7.out; omega); intro v107 w10 ho hb hg hat; rw [← Ny106.out] at ho; have n0_ := Aside0.mk (blk_grown (g := gb104) (o := .cells #[.bool a0_0, .bool a0_1] 22 (0, 0)) (by (with_reducible repeat (first | refine blk_drewN ?_ _ | refine blk_drew ?_ | refine blk_alloc ?_ _)); exact BK104.out) hg (Kd.R_ne HO_5.out BK104.out (by decide))); have n1_ := Aside0.mk (hb); have n2_ := Aside0.mk (ho); clear BK104; clear HB; clear HO_5; have BK104 := n0_; have HB := n1_; have HO108 := n2_; clear n0_ n1_ n2_; clear ho hb hg hat))
            go_roundg k1
            case measure => have := HK1.out; omega
            case rel => exact ⟨(y106), (wrap64 (x7_1 + 1)), (by first | rfl | (simp; done) | (simp [*]; done)), H', ⟨by have := HK1.out; omega⟩, ⟨by (with_reducible repeat (first | apply Kd.R_alloc | apply Kd.R_drewN | apply Kd.R_drew)); exact HO108.out⟩, ⟨by (with_reducible repeat (first | refine blk_drewN ?_ _ | refine blk_drew ?_ | refine blk_alloc ?_ _)); exact BK104.out⟩, ⟨by repeat (first | (with_reducible first | exact HB.out | apply below_alloc | apply pw_below_drewN | apply below_drew1 | refine below_set ?_ GE104.out) | exact HB.out)⟩⟩
          · rw [if_neg c7] at H
            exact absurd H (by simp)
        · replace c6 := Bool.eq_false_iff.mpr c6
          subst c6
          have H1 : (filter_Outs.l0 k1 a1 x5_1 (wrap64 (x7_1 + 1)) a0_0 a0_1) = some r := by rw [if_neg (show ¬ (false = true) by decide)] at H; exact H
          clear H
          have H := H1
          clear H1
          have H' := Aside0.mk H
          clear H
          have hcz11_0 : wr.cell? ⟨gb104, 0, none⟩ = some (.bool a0_0) := (blk_cell BK104.out 0).trans rfl
          have hcz11_1 : wr.cell? ⟨gb104, 1, none⟩ = some (.bool a0_1) := (blk_cell BK104.out 1).trans rfl
          have hfz11_0 := blk_frozen BK104.out 0
          have hfz11_1 := blk_frozen BK104.out 1
          have hsaz11_ : ∀ u, (wr.setCell ⟨gb104, 0, none⟩ u).cell? ⟨gb104, 1, none⟩ = some (.bool a0_1) := (fun u => Eq.trans (World.cell?_setCell_other _ _ _ _ (by intro he; cases he)) hcz11_1)
          have hsbz11_ : ∀ u v, ((wr.setCell ⟨gb104, 0, none⟩ u).setCell ⟨gb104, 1, none⟩ v).cell? ⟨gb104, 1, none⟩ = some v := (fun u v => World.cell?_setCell_same _ _ _ (hsaz11_ u))
          go_wp2_with (first | ((with_reducible refine gate_callee (f := 14) rfl ?_); refine goesL_ (some 13) rfl rfl Try.func14 (by kernel_rfl) rfl #[.agg #[.bool a0_0, .bool a0_1], .int .i64 a1, .int .i64 x7_1] rfl (by (try simp only [List.map_toArray, List.map_cons, List.map_nil]); first | done | rfl | (simp only [List.length_drop, List.length_take]; rfl)) ?_; (with_reducible refine (filter_Data.calls a0_0 a0_1 a1 x7_1 false _ A5.out).mono ?_); rintro e w12 ⟨rfl, hb⟩; refine ⟨_, rfl, ?_⟩; have n0_ := Aside0.mk (Kd.R_below (by (with_reducible repeat (first | apply Kd.R_alloc | apply Kd.R_drewN | apply Kd.R_drew)); exact HO_5.out) hb); have n1_ := Aside0.mk (blk_below (g := gb104) (o := .cells #[.bool a0_0, .bool a0_1] 22 (0, 0)) (by (with_reducible repeat (first | refine blk_drewN ?_ _ | refine blk_drew ?_ | refine blk_alloc ?_ _)); exact BK104.out) hb); have n2_ := Aside0.mk (below_step (by repeat (first | (with_reducible first | exact HB.out | apply below_alloc | apply pw_below_drewN | apply below_drew1 | refine below_set ?_ GE104.out) | exact HB.out)) hb); clear HO_5; clear BK104; clear HB; have HO_5 := n0_; have BK104 := n1_; have HB := n2_; clear n0_ n1_ n2_; (try clear hb); (try clear hb2); (try clear hk); (try clear hi)))
          go_roundg k1
          case measure => have := HK1.out; omega
          case rel => exact ⟨(x5_1), (wrap64 (x7_1 + 1)), (by first | rfl | (simp; done) | (simp [*]; done)), H', ⟨by have := HK1.out; omega⟩, ⟨by (with_reducible repeat (first | apply Kd.R_alloc | apply Kd.R_drewN | apply Kd.R_drew)); exact HO_5.out⟩, ⟨by (with_reducible repeat (first | refine blk_drewN ?_ _ | refine blk_drew ?_ | refine blk_alloc ?_ _)); exact BK104.out⟩, ⟨by repeat (first | (with_reducible first | exact HB.out | apply below_alloc | apply pw_below_drewN | apply below_drew1 | refine below_set ?_ GE104.out) | exact HB.out)⟩⟩
      · rw [if_neg c4] at H
        have c4b0 : decide (x7_1 < 3) = false := decide_eq_false c4
        clear c4
        obtain rfl := Option.some.inj H
        go_wp2
        go_ret
        exact ⟨_, by first | rfl | (simp [errW_none, errW_some] <;> rfl) | (simp [*, errW_none, errW_some] <;> rfl), by (with_reducible repeat (first | apply Kd.R_alloc | apply Kd.R_drewN | apply Kd.R_drew)); exact HO_5.out, by repeat (first | (with_reducible first | exact HB.out | apply below_alloc | apply pw_below_drewN | apply below_drew1 | refine below_set ?_ GE104.out) | exact HB.out)⟩

/-! ### carouselref18_Open: function 13 (given: its walk is in another text) -/

def carouselref18_Open.f (a0_0 : Bool) (a0_1 : Bool) (a1 : Int) : Option (Bool) := some (if a1 = 2 then true else if a1 = 0 then !a0_0 else if a1 = 1 then !a0_1 else false)
set_option maxHeartbeats 4000000 in
set_option maxRecDepth 100000 in
theorem carouselref18_Open.calls (a0_0 : Bool) (a0_1 : Bool) (a1 : Int) (r : Bool) (w : World) (h : carouselref18_Open.f a0_0 a0_1 a1 = some r) :
    Calls Try.prog 13 #[.agg #[.bool a0_0, .bool a0_1], .int .i64 a1] w fun e w' => e = .returned (.bool r) ∧ Below w.heap.size w w' := by
  obtain rfl := Option.some.inj h
  clear h
  have hu22 := Try.underlying22
  have hB := blk_new w (.cells #[.bool a0_0, .bool a0_1] 22)
  have hz0 := (blk_cell hB 0).trans rfl
  have hz1 := (blk_cell hB 1).trans rfl
  have hBW := (Below.refl w.heap.size w).alloc (Nat.le_refl _) (.cells #[.bool a0_0, .bool a0_1] 22)
  by_cases c0 : a1 = 0
  · subst c0
    go_enter Try.func13, Try.ntmps13
    go_wp2
    exact bodyPost_ret (v := .bool (!a0_0)) (by simp [results, Try.results13, go_sem]) rfl ⟨by simp, hBW⟩
  have e0 : (a1 == 0) = false := by simpa using c0
  by_cases c1 : a1 = 1
  · subst c1
    go_enter Try.func13, Try.ntmps13
    go_wp2
    exact bodyPost_ret (v := .bool (!a0_1)) (by simp [results, Try.results13, go_sem]) rfl ⟨by simp, hBW⟩
  have e1 : (a1 == 1) = false := by simpa using c1
  by_cases c2 : a1 = 2
  · subst c2
    go_enter Try.func13, Try.ntmps13
    go_wp2
    exact bodyPost_ret (v := .bool true) (by simp [results, Try.results13, go_sem]) rfl ⟨by simp, hBW⟩
  · have e2 : (a1 == 2) = false := by simpa using c2
    go_enter Try.func13, Try.ntmps13
    go_wp2
    exact bodyPost_ret (v := .bool false) (by simp [results, Try.results13, go_sem]) rfl ⟨by simp [c0, c1, c2], hBW⟩


end Go.Proofs.Ytmdaaphjndjakaa.PAll
