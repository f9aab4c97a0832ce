-- Written by a program of this work, after the translation.
import Derived.Test.YtapicoienpbdfaaPWatchSendsx0
namespace Go.Proofs.Ytapicoienpbdfaa.PWatchSends
open Go.RowKit Go.Proofs.YtapicoienpbdfaaW.PrintWords Go.Proofs.YtapicoienpbdfaaW.PrintLast Go.Proofs.YtapicoienpbdfaaW.PrintMore
attribute [local go_sem] max2_int min2_int max_two min_two max_three min_three max_four min_four   -- for this text's walks alone
set_option linter.unusedVariables false
set_option linter.unusedSimpArgs false

/-! ### oam_Head_Is: function 44 -/
def oam_Head_Is.j0 : Nat → Int → Int → Bool → Int → Int → Int → Int → Int → Option (Int)
  | 0, _, _, _, _, _, _, _, _ => none
  | k + 1, x2, x4, x16, x200000, x200001, x200002, x200003, x200004 => if x16 = true then (some 8) else (if x200001 = x2 then (if x200004 = x4 then (some 0) else (some 3)) else (some 3))
def oam_Head_Is.f (k : Nat) (a0_0 : Int) (a0_1 : Int) (a0_2 : Int) (a0_3 : Int) (a0_4 : Int) (a1 : Int) (a2 : Int) (a3 : Int) (a4 : Int) : Option (Int) := if a0_0 = a1 then (if a0_2 = a3 then (oam_Head_Is.j0 k a2 a4 false a0_0 a0_1 a0_2 a0_3 a0_4) else (oam_Head_Is.j0 k a2 a4 (a0_1 == a2) a0_0 a0_1 a0_2 a0_3 a0_4)) else (some 7)
theorem oam_Head_Is.mono_l : ∀ k, (∀ y0 y1 y2 y3 y4 y5 y6 y7, LeO (oam_Head_Is.j0 k y0 y1 y2 y3 y4 y5 y6 y7) (oam_Head_Is.j0 (k + 1) y0 y1 y2 y3 y4 y5 y6 y7))
  | 0 => fun _ _ _ _ _ _ _ _ r h => by simp [oam_Head_Is.j0] at h
  | k + 1 => by
    have ih0 := oam_Head_Is.mono_l k
    · intro y0 y1 y2 y3 y4 y5 y6 y7
      unfold oam_Head_Is.j0
      repeat' first
      | (with_reducible exact ih0 _ _ _ _ _ _ _ _)
      | (with_reducible exact LeO.refl _)
      | (with_reducible exact LeO.none _)
      | (with_reducible refine LeO.ite ?_ ?_)
      | (with_reducible refine LeO.bind ?_ (fun _ => ?_))
      | exact ih0 _ _ _ _ _ _ _ _
      | exact LeO.none _
      | refine LeO.ite ?_ ?_
      | refine LeO.bind ?_ (fun _ => ?_)
theorem oam_Head_Is.mono : ∀ a0 a1 a2 a3 a4 a5 a6 a7 a8 k, LeO (oam_Head_Is.f k a0 a1 a2 a3 a4 a5 a6 a7 a8) (oam_Head_Is.f (k + 1) a0 a1 a2 a3 a4 a5 a6 a7 a8) := by
  intro a0 a1 a2 a3 a4 a5 a6 a7 a8 k
  have ih0 := oam_Head_Is.mono_l k
  unfold oam_Head_Is.f
  repeat' first
      | (with_reducible exact ih0 _ _ _ _ _ _ _ _)
      | (with_reducible exact LeO.refl _)
      | (with_reducible exact LeO.none _)
      | (with_reducible refine LeO.ite ?_ ?_)
      | (with_reducible refine LeO.bind ?_ (fun _ => ?_))
      | exact ih0 _ _ _ _ _ _ _ _
      | exact LeO.none _
      | refine LeO.ite ?_ ?_
      | refine LeO.bind ?_ (fun _ => ?_)
set_option maxHeartbeats 8000000 in
set_option maxRecDepth 100000 in
theorem oam_Head_Is.calls (k : Nat) (a0_0 : Int) (a0_1 : Int) (a0_2 : Int) (a0_3 : Int) (a0_4 : Int) (a1 : Int) (a2 : Int) (a3 : Int) (a4 : Int) (r : Int) (w : World) (h : oam_Head_Is.f k a0_0 a0_1 a0_2 a0_3 a0_4 a1 a2 a3 a4 = some r) :
    Calls Try.prog 44 #[.agg #[.int .u8 a0_0, .int .u8 a0_1, .int .u8 a0_2, .int .u8 a0_3, .int .u8 a0_4], .int .u8 a1, .int .u8 a2, .int .u8 a3, .int .u8 a4] w fun e w' => e = .returned (.int .i64 r) ∧ Below w.heap.size w w' := by
  have hu84 := Try.underlying84
  have HB := Aside0.mk (Below.refl w.heap.size w)
  have H : (if a0_0 = a1 then (if a0_2 = a3 then (oam_Head_Is.j0 k a2 a4 false a0_0 a0_1 a0_2 a0_3 a0_4) else (oam_Head_Is.j0 k a2 a4 (a0_1 == a2) a0_0 a0_1 a0_2 a0_3 a0_4)) else (some 7)) = some r := h
  clear h
  by_cases c6 : a0_0 = a1
  · rw [if_pos c6] at H
    have c6b0 : (a0_0 == a1) = true := beq_iff_eq.mpr c6
    have c6b1 : (a0_0 != a1) = false := bne_eq_false_iff_eq.mpr c6
    clear c6
    have HC7 := Aside0.mk H
    clear H
    go_enter Try.func44, Try.ntmps44
    go_upto_region 2 with (first | ((with_reducible refine gate_dst (N := 5) rfl ?_); refine box_event ?hg (N := 5) ?hd (cs := #[.int .u8 a0_0, .int .u8 a0_1, .int .u8 a0_2, .int .u8 a0_3, .int .u8 a0_4]) (t := 84) ?hr ?_; (case hd => rfl); (case hg => rfl); (case hr => first | (go_simp; done) | (go_simp; rfl)); intro gb199 hg w8 hbox hb; have n0_ := Aside0.mk (below_step (by repeat (first | (with_reducible first | exact HB.out | apply below_alloc | apply pw_below_drewN | apply below_drew1) | exact HB.out)) hb); have n1_ := Aside0.mk (hbox); have n2_ := Aside0.mk ((by rw [hg]; exact (below_size (by repeat (first | (with_reducible first | exact HB.out | apply below_alloc | apply pw_below_drewN | apply below_drew1) | exact HB.out))) : w.heap.size ≤ gb199)); have n3_ := Aside0.mk ((by rw [hg]; exact (below_size (by repeat (first | (with_reducible first | exact HB.out | apply below_alloc | apply pw_below_drewN | apply below_drew1) | exact HB.out))) : w.heap.size ≤ gb199)); clear HB; have HB := n0_; have BK199 := n1_; have GW199 := n2_; have GE199 := n3_; clear n0_ n1_ n2_ n3_; clear hb hbox hg; have hcz9_0 : w8.cell? ⟨gb199, 0, none⟩ = some (.int .u8 a0_0) := (blk_cell BK199.out 0).trans rfl; have hcz9_1 : w8.cell? ⟨gb199, 1, none⟩ = some (.int .u8 a0_1) := (blk_cell BK199.out 1).trans rfl; have hcz9_2 : w8.cell? ⟨gb199, 2, none⟩ = some (.int .u8 a0_2) := (blk_cell BK199.out 2).trans rfl; have hcz9_3 : w8.cell? ⟨gb199, 3, none⟩ = some (.int .u8 a0_3) := (blk_cell BK199.out 3).trans rfl; have hcz9_4 : w8.cell? ⟨gb199, 4, none⟩ = some (.int .u8 a0_4) := (blk_cell BK199.out 4).trans rfl; have hfz9_0 := blk_frozen BK199.out 0; have hfz9_1 := blk_frozen BK199.out 1; have hfz9_2 := blk_frozen BK199.out 2; have hfz9_3 := blk_frozen BK199.out 3; have hfz9_4 := blk_frozen BK199.out 4))
    (try simp only [Act.put, List.setIfInBounds_toArray, List.set_cons_zero, List.set_cons_succ])
    go_cut [16] (fun v16 wc => ∃ (kq : Nat) (x16_6 : Bool), v16 = .bool x16_6 ∧ Aside0 (oam_Head_Is.j0 kq a2 a4 x16_6 a0_0 a0_1 a0_2 a0_3 a0_4 = some r) ∧ Aside0 (kq ≤ k) ∧ Aside0 (wc.heap[gb199]? = some (.cells #[.int .u8 a0_0, .int .u8 a0_1, .int .u8 a0_2, .int .u8 a0_3, .int .u8 a0_4] 84 (0, 0))) ∧ Aside0 (Below w.heap.size w wc))
    case first =>
      have H := HC7.out
      clear HC7
      by_cases c10 : a0_2 = a3
      · rw [if_pos c10] at H
        have c10b0 : (a0_2 == a3) = true := beq_iff_eq.mpr c10
        have c10b1 : (a0_2 != a3) = false := bne_eq_false_iff_eq.mpr c10
        clear c10
        (first | rw [c10b0] | (simp only [i64_w, i32_w]; rw [c10b0]) | skip)
        have H' := Aside0.mk H
        clear H
        have hcz11_0 : w8.cell? ⟨gb199, 0, none⟩ = some (.int .u8 a0_0) := (blk_cell BK199.out 0).trans rfl
        have hcz11_1 : w8.cell? ⟨gb199, 1, none⟩ = some (.int .u8 a0_1) := (blk_cell BK199.out 1).trans rfl
        have hcz11_2 : w8.cell? ⟨gb199, 2, none⟩ = some (.int .u8 a0_2) := (blk_cell BK199.out 2).trans rfl
        have hcz11_3 : w8.cell? ⟨gb199, 3, none⟩ = some (.int .u8 a0_3) := (blk_cell BK199.out 3).trans rfl
        have hcz11_4 : w8.cell? ⟨gb199, 4, none⟩ = some (.int .u8 a0_4) := (blk_cell BK199.out 4).trans rfl
        have hfz11_0 := blk_frozen BK199.out 0
        have hfz11_1 := blk_frozen BK199.out 1
        have hfz11_2 := blk_frozen BK199.out 2
        have hfz11_3 := blk_frozen BK199.out 3
        have hfz11_4 := blk_frozen BK199.out 4
        go_wp2
        go_meet
        case rel => exact ⟨_, (false), (by first | rfl | (simp; done) | (simp [*]; done)), H', ⟨by first | omega | exact Nat.le_refl _⟩, ⟨by (with_reducible repeat (first | refine blk_drewN ?_ _ | refine blk_drew ?_ | refine blk_alloc ?_ _)); exact BK199.out⟩, ⟨by repeat (first | (with_reducible first | exact HB.out | apply below_alloc | apply pw_below_drewN | apply below_drew1 | refine below_set ?_ GE199.out) | exact HB.out)⟩⟩
      · rw [if_neg c10] at H
        have c10b0 : (a0_2 == a3) = false := beq_eq_false_iff_ne.mpr c10
        have c10b1 : (a0_2 != a3) = true := bne_iff_ne.mpr c10
        (first | rw [c10b0] | (simp only [i64_w, i32_w]; rw [c10b0]) | skip)
        have H' := Aside0.mk H
        clear H
        have hcz12_0 : w8.cell? ⟨gb199, 0, none⟩ = some (.int .u8 a0_0) := (blk_cell BK199.out 0).trans rfl
        have hcz12_1 : w8.cell? ⟨gb199, 1, none⟩ = some (.int .u8 a0_1) := (blk_cell BK199.out 1).trans rfl
        have hcz12_2 : w8.cell? ⟨gb199, 2, none⟩ = some (.int .u8 a0_2) := (blk_cell BK199.out 2).trans rfl
        have hcz12_3 : w8.cell? ⟨gb199, 3, none⟩ = some (.int .u8 a0_3) := (blk_cell BK199.out 3).trans rfl
        have hcz12_4 : w8.cell? ⟨gb199, 4, none⟩ = some (.int .u8 a0_4) := (blk_cell BK199.out 4).trans rfl
        have hfz12_0 := blk_frozen BK199.out 0
        have hfz12_1 := blk_frozen BK199.out 1
        have hfz12_2 := blk_frozen BK199.out 2
        have hfz12_3 := blk_frozen BK199.out 3
        have hfz12_4 := blk_frozen BK199.out 4
        go_wp2
        go_meet
        case rel => exact ⟨_, ((a0_1 == a2)), (by first | rfl | (simp; done) | (simp [*]; done)), H', ⟨by first | omega | exact Nat.le_refl _⟩, ⟨by (with_reducible repeat (first | refine blk_drewN ?_ _ | refine blk_drew ?_ | refine blk_alloc ?_ _)); exact BK199.out⟩, ⟨by repeat (first | (with_reducible first | exact HB.out | apply below_alloc | apply pw_below_drewN | apply below_drew1 | refine below_set ?_ GE199.out) | exact HB.out)⟩⟩
    case rest =>
      clear HC7
      try clear c1
      try clear p2
      try clear c4
      try clear c6
      try clear c6b0
      try clear c6b1
      try clear c10
      try clear c10b0
      try clear c10b1
      try clear hcz11_0
      try clear hcz11_1
      try clear hcz11_2
      try clear hcz11_3
      try clear hcz11_4
      try clear hcz12_0
      try clear hcz12_1
      try clear hcz12_2
      try clear hcz12_3
      try clear hcz12_4
      try clear hcz9_0
      try clear hcz9_1
      try clear hcz9_2
      try clear hcz9_3
      try clear hcz9_4
      try clear hfz11_0
      try clear hfz11_1
      try clear hfz11_2
      try clear hfz11_3
      try clear hfz11_4
      try clear hfz12_0
      try clear hfz12_1
      try clear hfz12_2
      try clear hfz12_3
      try clear hfz12_4
      try clear hfz9_0
      try clear hfz9_1
      try clear hfz9_2
      try clear hfz9_3
      try clear hfz9_4
      obtain ⟨kq, x16_6, rfl, HA, HJ6, BK199, HB⟩ := hcut
      cases kq with
      | zero => exact absurd HA.out (by simp [oam_Head_Is.j0])
      | succ kj6 =>
        have H := HA.out
        clear HA
        simp only [oam_Head_Is.j0] at H
        by_cases c13 : x16_6 = true
        · subst c13
          have H1 : (some 8) = some r := by rw [if_pos rfl] at H; exact H
          clear H
          have H := H1
          clear H1
          obtain rfl := Option.some.inj H
          go_wp2
          go_ret
          exact ⟨by first | rfl | (simp [errW_none, errW_some] <;> rfl) | (simp [*, errW_none, errW_some] <;> rfl), by repeat (first | (with_reducible first | exact HB.out | apply below_alloc | apply pw_below_drewN | apply below_drew1 | refine below_set ?_ GE199.out) | exact HB.out)⟩
        · replace c13 := Bool.eq_false_iff.mpr c13
          subst c13
          have H1 : (if a0_1 = a2 then (if a0_4 = a4 then (some 0) else (some 3)) else (some 3)) = some r := by rw [if_neg (show ¬ (false = true) by decide)] at H; exact H
          clear H
          have H := H1
          clear H1
          by_cases c14 : a0_1 = a2
          · rw [if_pos c14] at H
            have c14b0 : (a0_1 == a2) = true := beq_iff_eq.mpr c14
            have c14b1 : (a0_1 != a2) = false := bne_eq_false_iff_eq.mpr c14
            clear c14
            by_cases c15 : a0_4 = a4
            · rw [if_pos c15] at H
              have c15b0 : (a0_4 == a4) = true := beq_iff_eq.mpr c15
              have c15b1 : (a0_4 != a4) = false := bne_eq_false_iff_eq.mpr c15
              clear c15
              obtain rfl := Option.some.inj H
              have hcz16_0 : wc.cell? ⟨gb199, 0, none⟩ = some (.int .u8 a0_0) := (blk_cell BK199.out 0).trans rfl
              have hcz16_1 : wc.cell? ⟨gb199, 1, none⟩ = some (.int .u8 a0_1) := (blk_cell BK199.out 1).trans rfl
              have hcz16_2 : wc.cell? ⟨gb199, 2, none⟩ = some (.int .u8 a0_2) := (blk_cell BK199.out 2).trans rfl
              have hcz16_3 : wc.cell? ⟨gb199, 3, none⟩ = some (.int .u8 a0_3) := (blk_cell BK199.out 3).trans rfl
              have hcz16_4 : wc.cell? ⟨gb199, 4, none⟩ = some (.int .u8 a0_4) := (blk_cell BK199.out 4).trans rfl
              have hfz16_0 := blk_frozen BK199.out 0
              have hfz16_1 := blk_frozen BK199.out 1
              have hfz16_2 := blk_frozen BK199.out 2
              have hfz16_3 := blk_frozen BK199.out 3
              have hfz16_4 := blk_frozen BK199.out 4
              go_wp2
              go_ret
              exact ⟨by first | rfl | (simp [errW_none, errW_some] <;> rfl) | (simp [*, errW_none, errW_some] <;> rfl), by repeat (first | (with_reducible first | exact HB.out | apply below_alloc | apply pw_below_drewN | apply below_drew1 | refine below_set ?_ GE199.out) | exact HB.out)⟩
            · rw [if_neg c15] at H
              have c15b0 : (a0_4 == a4) = false := beq_eq_false_iff_ne.mpr c15
              have c15b1 : (a0_4 != a4) = true := bne_iff_ne.mpr c15
              obtain rfl := Option.some.inj H
              have hcz17_0 : wc.cell? ⟨gb199, 0, none⟩ = some (.int .u8 a0_0) := (blk_cell BK199.out 0).trans rfl
              have hcz17_1 : wc.cell? ⟨gb199, 1, none⟩ = some (.int .u8 a0_1) := (blk_cell BK199.out 1).trans rfl
              have hcz17_2 : wc.cell? ⟨gb199, 2, none⟩ = some (.int .u8 a0_2) := (blk_cell BK199.out 2).trans rfl
              have hcz17_3 : wc.cell? ⟨gb199, 3, none⟩ = some (.int .u8 a0_3) := (blk_cell BK199.out 3).trans rfl
              have hcz17_4 : wc.cell? ⟨gb199, 4, none⟩ = some (.int .u8 a0_4) := (blk_cell BK199.out 4).trans rfl
              have hfz17_0 := blk_frozen BK199.out 0
              have hfz17_1 := blk_frozen BK199.out 1
              have hfz17_2 := blk_frozen BK199.out 2
              have hfz17_3 := blk_frozen BK199.out 3
              have hfz17_4 := blk_frozen BK199.out 4
              go_wp2
              go_ret
              exact ⟨by first | rfl | (simp [errW_none, errW_some] <;> rfl) | (simp [*, errW_none, errW_some] <;> rfl), by repeat (first | (with_reducible first | exact HB.out | apply below_alloc | apply pw_below_drewN | apply below_drew1 | refine below_set ?_ GE199.out) | exact HB.out)⟩
          · rw [if_neg c14] at H
            have c14b0 : (a0_1 == a2) = false := beq_eq_false_iff_ne.mpr c14
            have c14b1 : (a0_1 != a2) = true := bne_iff_ne.mpr c14
            obtain rfl := Option.some.inj H
            have hcz18_0 : wc.cell? ⟨gb199, 0, none⟩ = some (.int .u8 a0_0) := (blk_cell BK199.out 0).trans rfl
            have hcz18_1 : wc.cell? ⟨gb199, 1, none⟩ = some (.int .u8 a0_1) := (blk_cell BK199.out 1).trans rfl
            have hcz18_2 : wc.cell? ⟨gb199, 2, none⟩ = some (.int .u8 a0_2) := (blk_cell BK199.out 2).trans rfl
            have hcz18_3 : wc.cell? ⟨gb199, 3, none⟩ = some (.int .u8 a0_3) := (blk_cell BK199.out 3).trans rfl
            have hcz18_4 : wc.cell? ⟨gb199, 4, none⟩ = some (.int .u8 a0_4) := (blk_cell BK199.out 4).trans rfl
            have hfz18_0 := blk_frozen BK199.out 0
            have hfz18_1 := blk_frozen BK199.out 1
            have hfz18_2 := blk_frozen BK199.out 2
            have hfz18_3 := blk_frozen BK199.out 3
            have hfz18_4 := blk_frozen BK199.out 4
            go_wp2
            go_ret
            exact ⟨by first | rfl | (simp [errW_none, errW_some] <;> rfl) | (simp [*, errW_none, errW_some] <;> rfl), by repeat (first | (with_reducible first | exact HB.out | apply below_alloc | apply pw_below_drewN | apply below_drew1 | refine below_set ?_ GE199.out) | exact HB.out)⟩
  · rw [if_neg c6] at H
    have c6b0 : (a0_0 == a1) = false := beq_eq_false_iff_ne.mpr c6
    have c6b1 : (a0_0 != a1) = true := bne_iff_ne.mpr c6
    obtain rfl := Option.some.inj H
    go_enter Try.func44, Try.ntmps44
    go_wp2_with (first | ((with_reducible refine gate_dst (N := 5) rfl ?_); refine box_event ?hg (N := 5) ?hd (cs := #[.int .u8 a0_0, .int .u8 a0_1, .int .u8 a0_2, .int .u8 a0_3, .int .u8 a0_4]) (t := 84) ?hr ?_; (case hd => rfl); (case hg => rfl); (case hr => first | (go_simp; done) | (go_simp; rfl)); intro gb199 hg w19 hbox hb; have n0_ := Aside0.mk (below_step (by repeat (first | (with_reducible first | exact HB.out | apply below_alloc | apply pw_below_drewN | apply below_drew1) | exact HB.out)) hb); have n1_ := Aside0.mk (hbox); have n2_ := Aside0.mk ((by rw [hg]; exact (below_size (by repeat (first | (with_reducible first | exact HB.out | apply below_alloc | apply pw_below_drewN | apply below_drew1) | exact HB.out))) : w.heap.size ≤ gb199)); have n3_ := Aside0.mk ((by rw [hg]; exact (below_size (by repeat (first | (with_reducible first | exact HB.out | apply below_alloc | apply pw_below_drewN | apply below_drew1) | exact HB.out))) : w.heap.size ≤ gb199)); clear HB; have HB := n0_; have BK199 := n1_; have GW199 := n2_; have GE199 := n3_; clear n0_ n1_ n2_ n3_; clear hb hbox hg; have hcz20_0 : w19.cell? ⟨gb199, 0, none⟩ = some (.int .u8 a0_0) := (blk_cell BK199.out 0).trans rfl; have hcz20_1 : w19.cell? ⟨gb199, 1, none⟩ = some (.int .u8 a0_1) := (blk_cell BK199.out 1).trans rfl; have hcz20_2 : w19.cell? ⟨gb199, 2, none⟩ = some (.int .u8 a0_2) := (blk_cell BK199.out 2).trans rfl; have hcz20_3 : w19.cell? ⟨gb199, 3, none⟩ = some (.int .u8 a0_3) := (blk_cell BK199.out 3).trans rfl; have hcz20_4 : w19.cell? ⟨gb199, 4, none⟩ = some (.int .u8 a0_4) := (blk_cell BK199.out 4).trans rfl; have hfz20_0 := blk_frozen BK199.out 0; have hfz20_1 := blk_frozen BK199.out 1; have hfz20_2 := blk_frozen BK199.out 2; have hfz20_3 := blk_frozen BK199.out 3; have hfz20_4 := blk_frozen BK199.out 4))
    go_ret
    exact ⟨by first | rfl | (simp [errW_none, errW_some] <;> rfl) | (simp [*, errW_none, errW_some] <;> rfl), by repeat (first | (with_reducible first | exact HB.out | apply below_alloc | apply pw_below_drewN | apply below_drew1 | refine below_set ?_ GE199.out) | exact HB.out)⟩

/-! ### field_Noughts: function 46 -/
def field_Noughts.l0 : Nat → ByteArray → Int → Int → Option (Bool)
  | 0, _, _, _ => none
  | k + 1, x0, x5, x6 => if x6 < x5 then (if 0 ≤ x6 then (if x6 < (x0.size : Int) then (if (bt x0 x6) = 0 then (field_Noughts.l0 k x0 x5 (wrap64 (x6 + 1))) else (some false)) else (none)) else (none)) else (some true)
def field_Noughts.f (k : Nat) (a0 : ByteArray) : Option (Bool) := field_Noughts.l0 k a0 (a0.size : Int) 0
theorem field_Noughts.mono_l : ∀ k, (∀ y0 y1 y2, LeO (field_Noughts.l0 k y0 y1 y2) (field_Noughts.l0 (k + 1) y0 y1 y2))
  | 0 => fun _ _ _ r h => by simp [field_Noughts.l0] at h
  | k + 1 => by
    have ih0 := field_Noughts.mono_l k
    · intro y0 y1 y2
      unfold field_Noughts.l0
      repeat' first
      | (with_reducible exact ih0 _ _ _)
      | (with_reducible exact LeO.refl _)
      | (with_reducible exact LeO.none _)
      | (with_reducible refine LeO.ite ?_ ?_)
      | (with_reducible refine LeO.bind ?_ (fun _ => ?_))
      | exact ih0 _ _ _
      | exact LeO.none _
      | refine LeO.ite ?_ ?_
      | refine LeO.bind ?_ (fun _ => ?_)
theorem field_Noughts.mono : ∀ a0 k, LeO (field_Noughts.f k a0) (field_Noughts.f (k + 1) a0) := by
  intro a0 k
  have ih0 := field_Noughts.mono_l k
  unfold field_Noughts.f
  repeat' first
      | (with_reducible exact ih0 _ _ _)
      | (with_reducible exact LeO.refl _)
      | (with_reducible exact LeO.none _)
      | (with_reducible refine LeO.ite ?_ ?_)
      | (with_reducible refine LeO.bind ?_ (fun _ => ?_))
      | exact ih0 _ _ _
      | exact LeO.none _
      | refine LeO.ite ?_ ?_
      | refine LeO.bind ?_ (fun _ => ?_)
set_option maxHeartbeats 8000000 in
set_option maxRecDepth 100000 in
theorem field_Noughts.calls (k : Nat) (a0 : ByteArray) (r : Bool) (w : World) (h : field_Noughts.f k a0 = some r) :
    Calls Try.prog 46 #[.string a0] w fun e w' => e = .returned (.bool r) ∧ Drawn0 w w' := by
  have H : (field_Noughts.l0 k a0 (a0.size : Int) 0) = some r := h
  clear h
  have H' := Aside0.mk H
  clear H
  go_enter Try.func46, Try.ntmps46
  go_wp2
  go_loopg [6] k (fun kq v6 w' => ∃ (x6_1 : Int), v6 = .int .i64 x6_1 ∧ Aside0 (field_Noughts.l0 kq a0 (a0.size : Int) x6_1 = some r) ∧ Aside0 (kq ≤ k) ∧ Drawn0 w w')
  case atStart => exact ⟨(0), (by first | rfl | (simp; done) | (simp [*]; done)), H', ⟨Nat.le_refl _⟩, by repeat (first | exact Drawn0.refl _ | apply Drawn0.step)⟩
  case round =>
    clear H'
    obtain ⟨x6_1, rfl, HA, HK1, ⟨m1, rfl⟩⟩ := hrel
    cases gk with
    | zero => exact absurd HA.out (by simp [field_Noughts.l0])
    | succ k1 =>
      have H := HA.out
      clear HA
      simp only [field_Noughts.l0] at H
      by_cases c2 : x6_1 < (a0.size : Int)
      · rw [if_pos c2] at H
        have c2b0 : decide (x6_1 < (a0.size : Int)) = true := decide_eq_true c2
        clear c2
        by_cases c3 : 0 ≤ x6_1
        · rw [if_pos c3] at H
          have c3b0 : decide (0 ≤ x6_1) = true := decide_eq_true c3
          clear c3
          by_cases c4 : x6_1 < (a0.size : Int)
          · rw [if_pos c4] at H
            have c4b0 : decide (x6_1 < (a0.size : Int)) = true := decide_eq_true c4
            clear c4
            by_cases c6 : (bt a0 x6_1) = 0
            · rw [if_pos c6] at H
              have c6b0 : ((bt a0 x6_1) == 0) = true := beq_iff_eq.mpr c6
              have c6b1 : ((bt a0 x6_1) != 0) = false := bne_eq_false_iff_eq.mpr c6
              clear c6
              have H' := Aside0.mk H
              clear H
              have p5 : 0 ≤ (x6_1 : Int) := of_decide_eq_true (by first | (with_reducible assumption) | assumption)
              have q5 : x6_1 < (a0.size : Int) := of_decide_eq_true (by first | (with_reducible assumption) | assumption)
              have hx5 := bt_at a0 x6_1
              replace p5 := eq_true p5
              replace q5 := eq_true q5
              go_wp2
              go_roundg k1
              case measure => have := HK1.out; omega
              case rel => exact ⟨(wrap64 (x6_1 + 1)), (by first | rfl | (simp; done) | (simp [*]; done)), H', ⟨by have := HK1.out; omega⟩, by repeat (first | exact Drawn0.refl _ | apply Drawn0.step)⟩
            · rw [if_neg c6] at H
              have c6b0 : ((bt a0 x6_1) == 0) = false := beq_eq_false_iff_ne.mpr c6
              have c6b1 : ((bt a0 x6_1) != 0) = true := bne_iff_ne.mpr c6
              obtain rfl := Option.some.inj H
              have p5 : 0 ≤ (x6_1 : Int) := of_decide_eq_true (by first | (with_reducible assumption) | assumption)
              have q5 : x6_1 < (a0.size : Int) := of_decide_eq_true (by first | (with_reducible assumption) | assumption)
              have hx5 := bt_at a0 x6_1
              replace p5 := eq_true p5
              replace q5 := eq_true q5
              go_wp2
              go_ret
              exact ⟨by first | rfl | (simp; done) | (simp [*]; done), by repeat (first | exact Drawn0.refl _ | apply Drawn0.step)⟩
          · rw [if_neg c4] at H
            exact absurd H (by simp)
        · rw [if_neg c3] at H
          exact absurd H (by simp)
      · rw [if_neg c2] at H
        have c2b0 : decide (x6_1 < (a0.size : Int)) = false := decide_eq_false c2
        clear c2
        obtain rfl := Option.some.inj H
        go_wp2
        go_ret
        exact ⟨by first | rfl | (simp; done) | (simp [*]; done), by repeat (first | exact Drawn0.refl _ | apply Drawn0.step)⟩

end Go.Proofs.Ytapicoienpbdfaa.PWatchSends
