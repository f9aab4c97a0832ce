-- Written by a program of this work, after the translation.
import Derived.Test.YtmdaaphjndjakaaPAllx0
import Derived.Test.YtmdaaphjndjakaaPAllx1
namespace Go.Proofs.Ytmdaaphjndjakaa.PAll
open Go.RowKit Go.Proofs.YtmdaaphjndjakaaW.PrintWords Go.Proofs.YtmdaaphjndjakaaW.PrintLast Go.Proofs.YtmdaaphjndjakaaW.PrintMore
attribute [local go_sem] max2_int min2_int max_two min_two max_three min_three max_four min_four   -- for this text's walks alone
set_option linter.unusedVariables false
set_option linter.unusedSimpArgs false

/-! ### carouselref18_Outs: function 10 -/
def carouselref18_Outs.l0 : Nat → Int → List Int → Int → Bool → Bool → Option (List Int)
  | 0, _, _, _, _, _ => none
  | k + 1, x1, x5, x6, x110000, x110001 => if x6 < 3 then (if x6 = x1 then (carouselref18_Outs.l0 k x1 x5 (wrap64 (x6 + 1)) x110000 x110001) else ((carouselref18_Open.f x110000 x110001 x6).bind fun t110 => (if t110 = true then ((carouselref18_Open.f x110000 x110001 x1).bind fun t111 => (if t111 = true then (if x5.length < 17592186044416 then (carouselref18_Outs.l0 k x1 (x5 ++ [x6]) (wrap64 (x6 + 1)) x110000 x110001) else (none)) else (carouselref18_Outs.l0 k x1 x5 (wrap64 (x6 + 1)) x110000 x110001))) else (carouselref18_Outs.l0 k x1 x5 (wrap64 (x6 + 1)) x110000 x110001)))) else (some x5)
def carouselref18_Outs.f (k : Nat) (a0_0 : Bool) (a0_1 : Bool) (a1 : Int) : Option (List Int) := carouselref18_Outs.l0 k a1 ([] : List Int) 0 a0_0 a0_1
theorem carouselref18_Outs.mono_l : ∀ k, (∀ y0 y1 y2 y3 y4, LeO (carouselref18_Outs.l0 k y0 y1 y2 y3 y4) (carouselref18_Outs.l0 (k + 1) y0 y1 y2 y3 y4))
  | 0 => fun _ _ _ _ _ r h => by simp [carouselref18_Outs.l0] at h
  | k + 1 => by
    have ih0 := carouselref18_Outs.mono_l k
    · intro y0 y1 y2 y3 y4
      unfold carouselref18_Outs.l0
      repeat' first
      | (with_reducible exact ih0 _ _ _ _ _)
      | (with_reducible exact LeO.refl _)
      | (with_reducible exact LeO.none _)
      | (with_reducible refine LeO.ite ?_ ?_)
      | (with_reducible refine LeO.bind ?_ (fun _ => ?_))
      | exact ih0 _ _ _ _ _
      | exact LeO.none _
      | refine LeO.ite ?_ ?_
      | refine LeO.bind ?_ (fun _ => ?_)
theorem carouselref18_Outs.mono : ∀ a0 a1 a2 k, LeO (carouselref18_Outs.f k a0 a1 a2) (carouselref18_Outs.f (k + 1) a0 a1 a2) := by
  intro a0 a1 a2 k
  have ih0 := carouselref18_Outs.mono_l k
  unfold carouselref18_Outs.f
  repeat' first
      | (with_reducible exact ih0 _ _ _ _ _)
      | (with_reducible exact LeO.refl _)
      | (with_reducible exact LeO.none _)
      | (with_reducible refine LeO.ite ?_ ?_)
      | (with_reducible refine LeO.bind ?_ (fun _ => ?_))
      | exact ih0 _ _ _ _ _
      | exact LeO.none _
      | refine LeO.ite ?_ ?_
      | refine LeO.bind ?_ (fun _ => ?_)
set_option maxHeartbeats 8000000 in
set_option maxRecDepth 100000 in
theorem carouselref18_Outs.calls (k : Nat) (a0_0 : Bool) (a0_1 : Bool) (a1 : Int) (r : List Int) (w : World) (h : carouselref18_Outs.f k a0_0 a0_1 a1 = some r) :
    Calls Try.prog 10 #[.agg #[.bool a0_0, .bool a0_1], .int .i64 a1] w fun e w' => ∃ v0_ : Value, e = .returned (v0_) ∧ Kd.R (Kd.int .i64) 3 w' w.heap.size (fun _ => True) v0_ r ∧ Below w.heap.size w w' := by
  have hu22 := Try.underlying22
  have HB := Aside0.mk (Below.refl w.heap.size w)
  have H : (carouselref18_Outs.l0 k a1 ([] : List Int) 0 a0_0 a0_1) = some r := h
  clear h
  have H' := Aside0.mk H
  clear H
  go_enter Try.func10, Try.ntmps10
  go_wp2_with (first | ((with_reducible refine gate_dst (N := 2) rfl ?_); refine box_event ?hg (N := 2) ?hd (cs := #[.bool a0_0, .bool a0_1]) (t := 22) ?hr ?_; (case hd => rfl); (case hg => rfl); (case hr => first | (go_simp; done) | (go_simp; rfl)); intro gb109 hg w3 hbox hb; have n0_ := Aside0.mk (below_step (by repeat (first | (with_reducible first | exact HB.out | apply below_alloc | apply pw_below_drewN | apply below_drew1) | exact HB.out)) hb); have n1_ := Aside0.mk (hbox); have n2_ := Aside0.mk ((by rw [hg]; exact (below_size (by repeat (first | (with_reducible first | exact HB.out | apply below_alloc | apply pw_below_drewN | apply below_drew1) | exact HB.out))) : w.heap.size ≤ gb109)); have n3_ := Aside0.mk ((by rw [hg]; exact (below_size (by repeat (first | (with_reducible first | exact HB.out | apply below_alloc | apply pw_below_drewN | apply below_drew1) | exact HB.out))) : w.heap.size ≤ gb109)); clear HB; have HB := n0_; have BK109 := n1_; have GW109 := n2_; have GE109 := n3_; clear n0_ n1_ n2_ n3_; clear hb hbox hg))
  go_loopg [5, 6] k (fun kq v5 v6 w' => ∃ (x5_1 : List Int) (x6_1 : Int), v6 = .int .i64 x6_1 ∧ Aside0 (carouselref18_Outs.l0 kq a1 x5_1 x6_1 a0_0 a0_1 = some r) ∧ Aside0 (kq ≤ k) ∧ Aside0 (Kd.R (Kd.int .i64) 3 w' w.heap.size (fun _ => True) v5 x5_1) ∧ Aside0 (w'.heap[gb109]? = some (.cells #[.bool a0_0, .bool a0_1] 22 (0, 0))) ∧ Aside0 (Below w.heap.size w w'))
  case atStart => exact ⟨(([] : List Int)), (0), (by first | rfl | (simp; done) | (simp [*]; done)), H', ⟨Nat.le_refl _⟩, ⟨by first | exact Kd.R_nil _ _ _ _ _ | exact Kd.N_nil _ _ _ _ _ | exact Kd.V_nil _ _ _ _ _ | exact Kd.Q_nil _ _ _ _ _ | exact Kd.S_nil _ _ _ _ _⟩, ⟨by (with_reducible repeat (first | refine blk_drewN ?_ _ | refine blk_drew ?_ | refine blk_alloc ?_ _)); exact BK109.out⟩, ⟨by repeat (first | (with_reducible first | exact HB.out | apply below_alloc | apply pw_below_drewN | apply below_drew1 | refine below_set ?_ GE109.out) | exact HB.out)⟩⟩
  case round =>
    clear H'
    try clear c1
    try clear p2
    obtain ⟨x5_1, x6_1, rfl, HA, HK1, HO_5, BK109, HB⟩ := hrel
    cases gk with
    | zero => exact absurd HA.out (by simp [carouselref18_Outs.l0])
    | succ k1 =>
      have H := HA.out
      clear HA
      simp only [carouselref18_Outs.l0] at H
      by_cases c4 : x6_1 < 3
      · rw [if_pos c4] at H
        have c4b0 : decide (x6_1 < 3) = true := decide_eq_true c4
        clear c4
        by_cases c5 : x6_1 = a1
        · rw [if_pos c5] at H
          have c5b0 : (x6_1 == a1) = true := beq_iff_eq.mpr c5
          have c5b1 : (x6_1 != a1) = false := bne_eq_false_iff_eq.mpr c5
          clear c5
          have H' := Aside0.mk H
          clear H
          go_wp2
          go_roundg k1
          case measure => have := HK1.out; omega
          case rel => exact ⟨(x5_1), (wrap64 (x6_1 + 1)), (by first | rfl | (simp; done) | (simp [*]; done)), H', ⟨by have := HK1.out; omega⟩, ⟨by (with_reducible repeat (first | apply Kd.R_alloc | apply Kd.R_drewN | apply Kd.R_drew)); exact HO_5.out⟩, ⟨by (with_reducible repeat (first | refine blk_drewN ?_ _ | refine blk_drew ?_ | refine blk_alloc ?_ _)); exact BK109.out⟩, ⟨by repeat (first | (with_reducible first | exact HB.out | apply below_alloc | apply pw_below_drewN | apply below_drew1 | refine below_set ?_ GE109.out) | exact HB.out)⟩⟩
        · rw [if_neg c5] at H
          have c5b0 : (x6_1 == a1) = false := beq_eq_false_iff_ne.mpr c5
          have c5b1 : (x6_1 != a1) = true := bne_iff_ne.mpr c5
          replace H := Option.bind_eq_some_iff.mp H
          obtain ⟨t110, A60, H⟩ := H
          replace H : (if t110 = true then ((carouselref18_Open.f a0_0 a0_1 a1).bind fun t111 => (if t111 = true then (if x5_1.length < 17592186044416 then (carouselref18_Outs.l0 k1 a1 (x5_1 ++ [x6_1]) (wrap64 (x6_1 + 1)) a0_0 a0_1) else (none)) else (carouselref18_Outs.l0 k1 a1 x5_1 (wrap64 (x6_1 + 1)) a0_0 a0_1))) else (carouselref18_Outs.l0 k1 a1 x5_1 (wrap64 (x6_1 + 1)) a0_0 a0_1)) = some r := H
          have A6 := Aside0.mk A60
          clear A60
          by_cases c7 : t110 = true
          · subst c7
            have H1 : ((carouselref18_Open.f a0_0 a0_1 a1).bind fun t111 => (if t111 = true then (if x5_1.length < 17592186044416 then (carouselref18_Outs.l0 k1 a1 (x5_1 ++ [x6_1]) (wrap64 (x6_1 + 1)) a0_0 a0_1) else (none)) else (carouselref18_Outs.l0 k1 a1 x5_1 (wrap64 (x6_1 + 1)) a0_0 a0_1))) = some r := by rw [if_pos rfl] at H; exact H
            clear H
            have H := H1
            clear H1
            replace H := Option.bind_eq_some_iff.mp H
            obtain ⟨t111, A80, H⟩ := H
            replace H : (if t111 = true then (if x5_1.length < 17592186044416 then (carouselref18_Outs.l0 k1 a1 (x5_1 ++ [x6_1]) (wrap64 (x6_1 + 1)) a0_0 a0_1) else (none)) else (carouselref18_Outs.l0 k1 a1 x5_1 (wrap64 (x6_1 + 1)) a0_0 a0_1)) = some r := H
            have A8 := Aside0.mk A80
            clear A80
            by_cases c9 : t111 = true
            · subst c9
              have H1 : (if x5_1.length < 17592186044416 then (carouselref18_Outs.l0 k1 a1 (x5_1 ++ [x6_1]) (wrap64 (x6_1 + 1)) a0_0 a0_1) else (none)) = some r := by rw [if_pos rfl] at H; exact H
              clear H
              have H := H1
              clear H1
              by_cases c10 : x5_1.length < 17592186044416
              · rw [if_pos c10] at H
                have LMc10 := Aside0.mk c10
                clear c10
                obtain ⟨y112, hy112⟩ : ∃ y_ : List Int, y_ = (x5_1 ++ [x6_1]) := ⟨_, rfl⟩
                replace H : (carouselref18_Outs.l0 k1 a1 y112 (wrap64 (x6_1 + 1)) a0_0 a0_1) = some r := by first | (rw [hy112]; with_reducible exact H) | (have H2_ := (Option.bind_some _ _).symm.trans H; rw [hy112]; with_reducible exact H2_) | (have H2_ := (Option.bind_some _ _).symm.trans H; with_reducible exact H2_) | with_reducible exact H | (rw [hy112]; exact H) | exact H
                have Ny112 := Aside0.mk hy112
                clear hy112
                have H' := Aside0.mk H
                clear H
                have hcz11_0 : wr.cell? ⟨gb109, 0, none⟩ = some (.bool a0_0) := (blk_cell BK109.out 0).trans rfl
                have hcz11_1 : wr.cell? ⟨gb109, 1, none⟩ = some (.bool a0_1) := (blk_cell BK109.out 1).trans rfl
                have hfz11_0 := blk_frozen BK109.out 0
                have hfz11_1 := blk_frozen BK109.out 1
                have hsaz11_ : ∀ u, (wr.setCell ⟨gb109, 0, none⟩ u).cell? ⟨gb109, 1, none⟩ = some (.bool a0_1) := (fun u => Eq.trans (World.cell?_setCell_other _ _ _ _ (by intro he; cases he)) hcz11_1)
                have hsbz11_ : ∀ u v, ((wr.setCell ⟨gb109, 0, none⟩ u).setCell ⟨gb109, 1, none⟩ v).cell? ⟨gb109, 1, none⟩ = some v := (fun u v => World.cell?_setCell_same _ _ _ (hsaz11_ u))
                go_wp2_with (first | (go_at_call 13; (with_reducible refine (carouselref18_Open.calls a0_0 a0_1 x6_1 true _ A6.out).mono ?_); rintro e w12 ⟨rfl, hb⟩; have n0_ := Aside0.mk (Kd.R_below (by (with_reducible repeat (first | apply Kd.R_alloc | apply Kd.R_drewN | apply Kd.R_drew)); exact HO_5.out) hb); have n1_ := Aside0.mk (blk_below (g := gb109) (o := .cells #[.bool a0_0, .bool a0_1] 22 (0, 0)) (by (with_reducible repeat (first | refine blk_drewN ?_ _ | refine blk_drew ?_ | refine blk_alloc ?_ _)); exact BK109.out) hb); have n2_ := Aside0.mk (below_step (by repeat (first | (with_reducible first | exact HB.out | apply below_alloc | apply pw_below_drewN | apply below_drew1 | refine below_set ?_ GE109.out) | exact HB.out)) hb); clear HO_5; clear BK109; clear HB; have HO_5 := n0_; have BK109 := n1_; have HB := n2_; clear n0_ n1_ n2_; (try clear hb); (try clear hb2); (try clear hk); (try clear hi); have hcz13_0 : w12.cell? ⟨gb109, 0, none⟩ = some (.bool a0_0) := (blk_cell BK109.out 0).trans rfl; have hcz13_1 : w12.cell? ⟨gb109, 1, none⟩ = some (.bool a0_1) := (blk_cell BK109.out 1).trans rfl; have hfz13_0 := blk_frozen BK109.out 0; have hfz13_1 := blk_frozen BK109.out 1; have hsaz13_ : ∀ u, (w12.setCell ⟨gb109, 0, none⟩ u).cell? ⟨gb109, 1, none⟩ = some (.bool a0_1) := (fun u => Eq.trans (World.cell?_setCell_other _ _ _ _ (by intro he; cases he)) hcz13_1); have hsbz13_ : ∀ u v, ((w12.setCell ⟨gb109, 0, none⟩ u).setCell ⟨gb109, 1, none⟩ v).cell? ⟨gb109, 1, none⟩ = some v := (fun u v => World.cell?_setCell_same _ _ _ (hsaz13_ u))) | (go_at_call 13; (with_reducible refine (carouselref18_Open.calls a0_0 a0_1 a1 true _ A8.out).mono ?_); rintro e w14 ⟨rfl, hb⟩; have n0_ := Aside0.mk (Kd.R_below (by (with_reducible repeat (first | apply Kd.R_alloc | apply Kd.R_drewN | apply Kd.R_drew)); exact HO_5.out) hb); have n1_ := Aside0.mk (blk_below (g := gb109) (o := .cells #[.bool a0_0, .bool a0_1] 22 (0, 0)) (by (with_reducible repeat (first | refine blk_drewN ?_ _ | refine blk_drew ?_ | refine blk_alloc ?_ _)); exact BK109.out) hb); have n2_ := Aside0.mk (below_step (by repeat (first | (with_reducible first | exact HB.out | apply below_alloc | apply pw_below_drewN | apply below_drew1 | refine below_set ?_ GE109.out) | exact HB.out)) hb); clear HO_5; clear BK109; clear HB; have HO_5 := n0_; have BK109 := n1_; have HB := n2_; clear n0_ n1_ n2_; (try clear hb); (try clear hb2); (try clear hk); (try clear hi)) | ((with_reducible refine gate_builtin (b := .append) (xs := #[.tmp 24, .tmp 26]) rfl ?_); at_builtin; refine Kd.R_append (Kd.int .i64) (w0 := w) w.heap.size rfl (.tmp 24) (.tmp 26) 23 3 (.int .i64 0) 8 rfl Try.underlying23 info3 rfl (by decide) (by omega) u5 x5_1 x6_1 [.int .i64 x6_1] (fun _ => True) (fun _ => False) rfl rfl ?aP (fun _ hk => hk.elim) ?aF ?aO ?aB ?aS ?aL ?_; (case aP => exact rfl); (case aB => exact (by repeat (first | (with_reducible first | exact HB.out | apply below_alloc | apply pw_below_drewN | apply below_drew1 | refine below_set ?_ GE109.out) | exact HB.out))); (case aF => exact (fun _ _ => trivial)); (case aO => exact (by (with_reducible repeat (first | apply Kd.R_alloc | apply Kd.R_drewN | apply Kd.R_drew)); exact HO_5.out)); (case aS => exact (below_size (by repeat (first | (with_reducible first | exact HB.out | apply below_alloc | apply pw_below_drewN | apply below_drew1 | refine below_set ?_ GE109.out) | exact HB.out)))); (case aL => have := LMc10.out; omega); intro v113 w15 ho hb hg hat; rw [← Ny112.out] at ho; have n0_ := Aside0.mk (blk_grown (g := gb109) (o := .cells #[.bool a0_0, .bool a0_1] 22 (0, 0)) (by (with_reducible repeat (first | refine blk_drewN ?_ _ | refine blk_drew ?_ | refine blk_alloc ?_ _)); exact BK109.out) hg (Kd.R_ne HO_5.out BK109.out (by decide))); have n1_ := Aside0.mk (hb); have n2_ := Aside0.mk (ho); clear BK109; clear HB; clear HO_5; have BK109 := n0_; have HB := n1_; have HO114 := n2_; clear n0_ n1_ n2_; clear ho hb hg hat))
                go_roundg k1
                case measure => have := HK1.out; omega
                case rel => exact ⟨(y112), (wrap64 (x6_1 + 1)), (by first | rfl | (simp; done) | (simp [*]; done)), H', ⟨by have := HK1.out; omega⟩, ⟨by (with_reducible repeat (first | apply Kd.R_alloc | apply Kd.R_drewN | apply Kd.R_drew)); exact HO114.out⟩, ⟨by (with_reducible repeat (first | refine blk_drewN ?_ _ | refine blk_drew ?_ | refine blk_alloc ?_ _)); exact BK109.out⟩, ⟨by repeat (first | (with_reducible first | exact HB.out | apply below_alloc | apply pw_below_drewN | apply below_drew1 | refine below_set ?_ GE109.out) | exact HB.out)⟩⟩
              · rw [if_neg c10] at H
                exact absurd H (by simp)
            · replace c9 := Bool.eq_false_iff.mpr c9
              subst c9
              have H1 : (carouselref18_Outs.l0 k1 a1 x5_1 (wrap64 (x6_1 + 1)) a0_0 a0_1) = some r := by rw [if_neg (show ¬ (false = true) by decide)] at H; exact H
              clear H
              have H := H1
              clear H1
              have H' := Aside0.mk H
              clear H
              have hcz16_0 : wr.cell? ⟨gb109, 0, none⟩ = some (.bool a0_0) := (blk_cell BK109.out 0).trans rfl
              have hcz16_1 : wr.cell? ⟨gb109, 1, none⟩ = some (.bool a0_1) := (blk_cell BK109.out 1).trans rfl
              have hfz16_0 := blk_frozen BK109.out 0
              have hfz16_1 := blk_frozen BK109.out 1
              have hsaz16_ : ∀ u, (wr.setCell ⟨gb109, 0, none⟩ u).cell? ⟨gb109, 1, none⟩ = some (.bool a0_1) := (fun u => Eq.trans (World.cell?_setCell_other _ _ _ _ (by intro he; cases he)) hcz16_1)
              have hsbz16_ : ∀ u v, ((wr.setCell ⟨gb109, 0, none⟩ u).setCell ⟨gb109, 1, none⟩ v).cell? ⟨gb109, 1, none⟩ = some v := (fun u v => World.cell?_setCell_same _ _ _ (hsaz16_ u))
              go_wp2_with (first | (go_at_call 13; (with_reducible refine (carouselref18_Open.calls a0_0 a0_1 x6_1 true _ A6.out).mono ?_); rintro e w17 ⟨rfl, hb⟩; have n0_ := Aside0.mk (Kd.R_below (by (with_reducible repeat (first | apply Kd.R_alloc | apply Kd.R_drewN | apply Kd.R_drew)); exact HO_5.out) hb); have n1_ := Aside0.mk (blk_below (g := gb109) (o := .cells #[.bool a0_0, .bool a0_1] 22 (0, 0)) (by (with_reducible repeat (first | refine blk_drewN ?_ _ | refine blk_drew ?_ | refine blk_alloc ?_ _)); exact BK109.out) hb); have n2_ := Aside0.mk (below_step (by repeat (first | (with_reducible first | exact HB.out | apply below_alloc | apply pw_below_drewN | apply below_drew1 | refine below_set ?_ GE109.out) | exact HB.out)) hb); clear HO_5; clear BK109; clear HB; have HO_5 := n0_; have BK109 := n1_; have HB := n2_; clear n0_ n1_ n2_; (try clear hb); (try clear hb2); (try clear hk); (try clear hi); have hcz18_0 : w17.cell? ⟨gb109, 0, none⟩ = some (.bool a0_0) := (blk_cell BK109.out 0).trans rfl; have hcz18_1 : w17.cell? ⟨gb109, 1, none⟩ = some (.bool a0_1) := (blk_cell BK109.out 1).trans rfl; have hfz18_0 := blk_frozen BK109.out 0; have hfz18_1 := blk_frozen BK109.out 1; have hsaz18_ : ∀ u, (w17.setCell ⟨gb109, 0, none⟩ u).cell? ⟨gb109, 1, none⟩ = some (.bool a0_1) := (fun u => Eq.trans (World.cell?_setCell_other _ _ _ _ (by intro he; cases he)) hcz18_1); have hsbz18_ : ∀ u v, ((w17.setCell ⟨gb109, 0, none⟩ u).setCell ⟨gb109, 1, none⟩ v).cell? ⟨gb109, 1, none⟩ = some v := (fun u v => World.cell?_setCell_same _ _ _ (hsaz18_ u))) | (go_at_call 13; (with_reducible refine (carouselref18_Open.calls a0_0 a0_1 a1 false _ A8.out).mono ?_); rintro e w19 ⟨rfl, hb⟩; have n0_ := Aside0.mk (Kd.R_below (by (with_reducible repeat (first | apply Kd.R_alloc | apply Kd.R_drewN | apply Kd.R_drew)); exact HO_5.out) hb); have n1_ := Aside0.mk (blk_below (g := gb109) (o := .cells #[.bool a0_0, .bool a0_1] 22 (0, 0)) (by (with_reducible repeat (first | refine blk_drewN ?_ _ | refine blk_drew ?_ | refine blk_alloc ?_ _)); exact BK109.out) hb); have n2_ := Aside0.mk (below_step (by repeat (first | (with_reducible first | exact HB.out | apply below_alloc | apply pw_below_drewN | apply below_drew1 | refine below_set ?_ GE109.out) | exact HB.out)) hb); clear HO_5; clear BK109; clear HB; have HO_5 := n0_; have BK109 := n1_; have HB := n2_; clear n0_ n1_ n2_; (try clear hb); (try clear hb2); (try clear hk); (try clear hi)))
              go_roundg k1
              case measure => have := HK1.out; omega
              case rel => exact ⟨(x5_1), (wrap64 (x6_1 + 1)), (by first | rfl | (simp; done) | (simp [*]; done)), H', ⟨by have := HK1.out; omega⟩, ⟨by (with_reducible repeat (first | apply Kd.R_alloc | apply Kd.R_drewN | apply Kd.R_drew)); exact HO_5.out⟩, ⟨by (with_reducible repeat (first | refine blk_drewN ?_ _ | refine blk_drew ?_ | refine blk_alloc ?_ _)); exact BK109.out⟩, ⟨by repeat (first | (with_reducible first | exact HB.out | apply below_alloc | apply pw_below_drewN | apply below_drew1 | refine below_set ?_ GE109.out) | exact HB.out)⟩⟩
          · replace c7 := Bool.eq_false_iff.mpr c7
            subst c7
            have H1 : (carouselref18_Outs.l0 k1 a1 x5_1 (wrap64 (x6_1 + 1)) a0_0 a0_1) = some r := by rw [if_neg (show ¬ (false = true) by decide)] at H; exact H
            clear H
            have H := H1
            clear H1
            have H' := Aside0.mk H
            clear H
            have hcz20_0 : wr.cell? ⟨gb109, 0, none⟩ = some (.bool a0_0) := (blk_cell BK109.out 0).trans rfl
            have hcz20_1 : wr.cell? ⟨gb109, 1, none⟩ = some (.bool a0_1) := (blk_cell BK109.out 1).trans rfl
            have hfz20_0 := blk_frozen BK109.out 0
            have hfz20_1 := blk_frozen BK109.out 1
            have hsaz20_ : ∀ u, (wr.setCell ⟨gb109, 0, none⟩ u).cell? ⟨gb109, 1, none⟩ = some (.bool a0_1) := (fun u => Eq.trans (World.cell?_setCell_other _ _ _ _ (by intro he; cases he)) hcz20_1)
            have hsbz20_ : ∀ u v, ((wr.setCell ⟨gb109, 0, none⟩ u).setCell ⟨gb109, 1, none⟩ v).cell? ⟨gb109, 1, none⟩ = some v := (fun u v => World.cell?_setCell_same _ _ _ (hsaz20_ u))
            go_wp2_with (first | (go_at_call 13; (with_reducible refine (carouselref18_Open.calls a0_0 a0_1 x6_1 false _ A6.out).mono ?_); rintro e w21 ⟨rfl, hb⟩; have n0_ := Aside0.mk (Kd.R_below (by (with_reducible repeat (first | apply Kd.R_alloc | apply Kd.R_drewN | apply Kd.R_drew)); exact HO_5.out) hb); have n1_ := Aside0.mk (blk_below (g := gb109) (o := .cells #[.bool a0_0, .bool a0_1] 22 (0, 0)) (by (with_reducible repeat (first | refine blk_drewN ?_ _ | refine blk_drew ?_ | refine blk_alloc ?_ _)); exact BK109.out) hb); have n2_ := Aside0.mk (below_step (by repeat (first | (with_reducible first | exact HB.out | apply below_alloc | apply pw_below_drewN | apply below_drew1 | refine below_set ?_ GE109.out) | exact HB.out)) hb); clear HO_5; clear BK109; clear HB; have HO_5 := n0_; have BK109 := n1_; have HB := n2_; clear n0_ n1_ n2_; (try clear hb); (try clear hb2); (try clear hk); (try clear hi)))
            go_roundg k1
            case measure => have := HK1.out; omega
            case rel => exact ⟨(x5_1), (wrap64 (x6_1 + 1)), (by first | rfl | (simp; done) | (simp [*]; done)), H', ⟨by have := HK1.out; omega⟩, ⟨by (with_reducible repeat (first | apply Kd.R_alloc | apply Kd.R_drewN | apply Kd.R_drew)); exact HO_5.out⟩, ⟨by (with_reducible repeat (first | refine blk_drewN ?_ _ | refine blk_drew ?_ | refine blk_alloc ?_ _)); exact BK109.out⟩, ⟨by repeat (first | (with_reducible first | exact HB.out | apply below_alloc | apply pw_below_drewN | apply below_drew1 | refine below_set ?_ GE109.out) | exact HB.out)⟩⟩
      · rw [if_neg c4] at H
        have c4b0 : decide (x6_1 < 3) = false := decide_eq_false c4
        clear c4
        obtain rfl := Option.some.inj H
        go_wp2
        go_ret
        exact ⟨_, by first | rfl | (simp [errW_none, errW_some] <;> rfl) | (simp [*, errW_none, errW_some] <;> rfl), by (with_reducible repeat (first | apply Kd.R_alloc | apply Kd.R_drewN | apply Kd.R_drew)); exact HO_5.out, by repeat (first | (with_reducible first | exact HB.out | apply below_alloc | apply pw_below_drewN | apply below_drew1 | refine below_set ?_ GE109.out) | exact HB.out)⟩

/-! ### carousellaw18_Awake: function 11 -/
def carousellaw18_Awake.f (k : Nat)  : Option (Bool) := (filter_Outs.f k true false 1).bind fun t115 => (if (t115.length : Int) = 1 then (if 0 < (t115.length : Int) then (if (rd t115 0) = 2 then ((filter_Open.f true false 1).bind fun t119 => (some t119)) else (some false)) else (none)) else (some false))
theorem carousellaw18_Awake.mono : ∀ k, LeO (carousellaw18_Awake.f k ) (carousellaw18_Awake.f (k + 1) ) := by
  intro  k
  unfold carousellaw18_Awake.f
  repeat' first
      | (with_reducible exact filter_Outs.mono _ _ _ _)
      | (with_reducible exact LeO.refl _)
      | (with_reducible exact LeO.none _)
      | (with_reducible refine LeO.ite ?_ ?_)
      | (with_reducible refine LeO.bind ?_ (fun _ => ?_))
      | exact filter_Outs.mono _ _ _ _
      | exact LeO.none _
      | refine LeO.ite ?_ ?_
      | refine LeO.bind ?_ (fun _ => ?_)
set_option maxHeartbeats 8000000 in
set_option maxRecDepth 100000 in
theorem carousellaw18_Awake.calls (k : Nat)  (r : Bool) (w : World) (h : carousellaw18_Awake.f k  = some r) :
    Calls Try.prog 11 #[] w fun e w' => e = .returned (.bool r) ∧ Below w.heap.size w w' := by
  have hu22 := Try.underlying22
  have HB := Aside0.mk (Below.refl w.heap.size w)
  have H : ((filter_Outs.f k true false 1).bind fun t115 => (if (t115.length : Int) = 1 then (if 0 < (t115.length : Int) then (if (rd t115 0) = 2 then ((filter_Open.f true false 1).bind fun t119 => (some t119)) else (some false)) else (none)) else (some false))) = some r := h
  clear h
  replace H := Option.bind_eq_some_iff.mp H
  obtain ⟨t115, A10, H⟩ := H
  replace H : (if (t115.length : Int) = 1 then (if 0 < (t115.length : Int) then (if (rd t115 0) = 2 then ((filter_Open.f true false 1).bind fun t119 => (some t119)) else (some false)) else (none)) else (some false)) = some r := H
  have A1 := Aside0.mk A10
  clear A10
  by_cases c2 : (t115.length : Int) = 1
  · rw [if_pos c2] at H
    have c2b0 : ((t115.length : Int) == 1) = true := beq_iff_eq.mpr c2
    have c2b1 : ((t115.length : Int) != 1) = false := bne_eq_false_iff_eq.mpr c2
    clear c2
    by_cases c3 : 0 < (t115.length : Int)
    · rw [if_pos c3] at H
      have c3b0 : decide (0 < (t115.length : Int)) = true := decide_eq_true c3
      have c3b1 : decide (0 < t115.length) = true := decide_eq_true (by omega)
      clear c3
      by_cases c4 : (rd t115 0) = 2
      · rw [if_pos c4] at H
        have c4b0 : ((rd t115 0) == 2) = true := beq_iff_eq.mpr c4
        have c4b1 : ((rd t115 0) != 2) = false := bne_eq_false_iff_eq.mpr c4
        clear c4
        replace H := Option.bind_eq_some_iff.mp H
        obtain ⟨t119, A50, H⟩ := H
        replace H : (some t119) = some r := H
        have A5 := Aside0.mk A50
        clear A50
        obtain rfl := Option.some.inj H
        go_enter Try.func11, Try.ntmps11
        go_wp2_with (first | ((with_reducible refine gate_callee (f := 9) rfl ?_); refine goesL_ (some 3) rfl rfl Try.func9 (by kernel_rfl) rfl #[.agg #[.bool true, .bool false], .int .i64 1] rfl (by (try simp only [List.map_toArray, List.map_cons, List.map_nil]); first | done | rfl | (simp only [List.length_drop, List.length_take]; rfl)) ?_; (with_reducible refine (filter_Outs.calls k true false 1 t115 _ A1.out).mono ?_); rintro e w6 ⟨v116, rfl, ho0, hb⟩; refine ⟨_, rfl, ?_⟩; have n0_ := Aside0.mk (Kd.R_lower ho0 (below_size (by repeat (first | (with_reducible first | exact HB.out | apply below_alloc | apply pw_below_drewN | apply below_drew1) | exact HB.out)))); have n1_ := Aside0.mk (below_step (by repeat (first | (with_reducible first | exact HB.out | apply below_alloc | apply pw_below_drewN | apply below_drew1) | exact HB.out)) hb); clear HB; have HO117 := n0_; have HB := n1_; clear n0_ n1_; (try clear hb); (try clear hb2); (try clear hk); (try clear hi); (try clear ho0); obtain ⟨Ao7, co7, eo7⟩ := Kd.R_slice HO117.out; subst eo7; have p118 : 0 ≤ (0 : Int) := (by omega); have q118 : 0 < (t115.length : Int) := of_decide_eq_true (by first | (with_reducible assumption) | assumption); obtain ⟨ad118, e118, hx118_0⟩ := Kd.at_int (Kd.R_reads' HO117.out).2.2 0 p118 q118; cases e118; have qi118 : (0 < t115.length) = True := eq_true (by omega); (try rw [show ((0 : Int)).toNat = 0 from rfl] at hx118_0); (try rw [Addr.add_zero'] at hx118_0); replace p118 := eq_true p118; replace q118 := eq_true q118) | (go_at_call 12; (with_reducible refine (filter_Open.calls true false 1 t119 _ A5.out).mono ?_); rintro e w8 ⟨rfl, hb⟩; have n0_ := Aside0.mk (Kd.R_below (by (with_reducible repeat (first | apply Kd.R_alloc | apply Kd.R_drewN | apply Kd.R_drew)); exact HO117.out) hb); have n1_ := Aside0.mk (below_step (by repeat (first | (with_reducible first | exact HB.out | apply below_alloc | apply pw_below_drewN | apply below_drew1) | exact HB.out)) hb); clear HO117; clear HB; have HO117 := n0_; have HB := n1_; clear n0_ n1_; (try clear hb); (try clear hb2); (try clear hk); (try clear hi)))
        go_ret
        exact ⟨by first | rfl | (simp [errW_none, errW_some] <;> rfl) | (simp [*, errW_none, errW_some] <;> rfl), by repeat (first | (with_reducible first | exact HB.out | apply below_alloc | apply pw_below_drewN | apply below_drew1) | exact HB.out)⟩
      · rw [if_neg c4] at H
        have c4b0 : ((rd t115 0) == 2) = false := beq_eq_false_iff_ne.mpr c4
        have c4b1 : ((rd t115 0) != 2) = true := bne_iff_ne.mpr c4
        obtain rfl := Option.some.inj H
        go_enter Try.func11, Try.ntmps11
        go_wp2_with (first | ((with_reducible refine gate_callee (f := 9) rfl ?_); refine goesL_ (some 3) rfl rfl Try.func9 (by kernel_rfl) rfl #[.agg #[.bool true, .bool false], .int .i64 1] rfl (by (try simp only [List.map_toArray, List.map_cons, List.map_nil]); first | done | rfl | (simp only [List.length_drop, List.length_take]; rfl)) ?_; (with_reducible refine (filter_Outs.calls k true false 1 t115 _ A1.out).mono ?_); rintro e w9 ⟨v116, rfl, ho0, hb⟩; refine ⟨_, rfl, ?_⟩; have n0_ := Aside0.mk (Kd.R_lower ho0 (below_size (by repeat (first | (with_reducible first | exact HB.out | apply below_alloc | apply pw_below_drewN | apply below_drew1) | exact HB.out)))); have n1_ := Aside0.mk (below_step (by repeat (first | (with_reducible first | exact HB.out | apply below_alloc | apply pw_below_drewN | apply below_drew1) | exact HB.out)) hb); clear HB; have HO117 := n0_; have HB := n1_; clear n0_ n1_; (try clear hb); (try clear hb2); (try clear hk); (try clear hi); (try clear ho0); obtain ⟨Ao10, co10, eo10⟩ := Kd.R_slice HO117.out; subst eo10; have p118 : 0 ≤ (0 : Int) := (by omega); have q118 : 0 < (t115.length : Int) := of_decide_eq_true (by first | (with_reducible assumption) | assumption); obtain ⟨ad118, e118, hx118_0⟩ := Kd.at_int (Kd.R_reads' HO117.out).2.2 0 p118 q118; cases e118; have qi118 : (0 < t115.length) = True := eq_true (by omega); (try rw [show ((0 : Int)).toNat = 0 from rfl] at hx118_0); (try rw [Addr.add_zero'] at hx118_0); replace p118 := eq_true p118; replace q118 := eq_true q118))
        go_ret
        exact ⟨by first | rfl | (simp [errW_none, errW_some] <;> rfl) | (simp [*, errW_none, errW_some] <;> rfl), by repeat (first | (with_reducible first | exact HB.out | apply below_alloc | apply pw_below_drewN | apply below_drew1) | exact HB.out)⟩
    · rw [if_neg c3] at H
      exact absurd H (by simp)
  · rw [if_neg c2] at H
    have c2b0 : ((t115.length : Int) == 1) = false := beq_eq_false_iff_ne.mpr c2
    have c2b1 : ((t115.length : Int) != 1) = true := bne_iff_ne.mpr c2
    obtain rfl := Option.some.inj H
    go_enter Try.func11, Try.ntmps11
    go_wp2_with (first | ((with_reducible refine gate_callee (f := 9) rfl ?_); refine goesL_ (some 3) rfl rfl Try.func9 (by kernel_rfl) rfl #[.agg #[.bool true, .bool false], .int .i64 1] rfl (by (try simp only [List.map_toArray, List.map_cons, List.map_nil]); first | done | rfl | (simp only [List.length_drop, List.length_take]; rfl)) ?_; (with_reducible refine (filter_Outs.calls k true false 1 t115 _ A1.out).mono ?_); rintro e w11 ⟨v116, rfl, ho0, hb⟩; refine ⟨_, rfl, ?_⟩; have n0_ := Aside0.mk (Kd.R_lower ho0 (below_size (by repeat (first | (with_reducible first | exact HB.out | apply below_alloc | apply pw_below_drewN | apply below_drew1) | exact HB.out)))); have n1_ := Aside0.mk (below_step (by repeat (first | (with_reducible first | exact HB.out | apply below_alloc | apply pw_below_drewN | apply below_drew1) | exact HB.out)) hb); clear HB; have HO117 := n0_; have HB := n1_; clear n0_ n1_; (try clear hb); (try clear hb2); (try clear hk); (try clear hi); (try clear ho0); obtain ⟨Ao12, co12, eo12⟩ := Kd.R_slice HO117.out; subst eo12))
    go_ret
    exact ⟨by first | rfl | (simp [errW_none, errW_some] <;> rfl) | (simp [*, errW_none, errW_some] <;> rfl), by repeat (first | (with_reducible first | exact HB.out | apply below_alloc | apply pw_below_drewN | apply below_drew1) | exact HB.out)⟩

end Go.Proofs.Ytmdaaphjndjakaa.PAll
