-- Written by a program of this work, after the translation.
import Derived.Test.YtapicoienpbdfaaPPlanRingsx0
import Derived.Test.YtapicoienpbdfaaPPlanRingsx3
namespace Go.Proofs.Ytapicoienpbdfaa.PPlanRings
open Go.RowKit Go.Proofs.YtapicoienpbdfaaW.PrintWords Go.Proofs.YtapicoienpbdfaaW.PrintLast Go.Proofs.YtapicoienpbdfaaW.PrintMore
attribute [local go_sem] max2_int min2_int max_two min_two max_three min_three max_four min_four   -- for this text's walks alone
set_option linter.unusedVariables false
set_option linter.unusedSimpArgs false

/-! ### ccm_Name: function 28 -/
def ccm_Name.f (a0 : ByteArray) : Option (ByteArray) := if (a0.size : Int) > 48 then (if 0 ≤ 48 then (if 48 ≤ (a0.size : Int) then (some (a0.extract 0 48)) else (none)) else (none)) else ((strings_Repeat.f (⟨#[0]⟩ : ByteArray) (wrap64 (48 - (a0.size : Int)))).bind fun t137 => (if a0.size + t137.size ≤ 9223372036854775807 then (some (a0 ++ t137)) else (none)))
set_option maxHeartbeats 8000000 in
set_option maxRecDepth 100000 in
theorem ccm_Name.calls (a0 : ByteArray) (r : ByteArray) (w : World) (h : ccm_Name.f a0 = some r) :
    Calls Try.prog 28 #[.string a0] w fun e w' => e = .returned (.string r) ∧ Below w.heap.size w w' := by
  have HB := Aside0.mk (Below.refl w.heap.size w)
  have H : (if (a0.size : Int) > 48 then (if 0 ≤ 48 then (if 48 ≤ (a0.size : Int) then (some (a0.extract 0 48)) else (none)) else (none)) else ((strings_Repeat.f (⟨#[0]⟩ : ByteArray) (wrap64 (48 - (a0.size : Int)))).bind fun t137 => (if a0.size + t137.size ≤ 9223372036854775807 then (some (a0 ++ t137)) else (none)))) = some r := h
  clear h
  by_cases c2 : (a0.size : Int) > 48
  · rw [if_pos c2] at H
    have c2b0 : decide (48 < (a0.size : Int)) = true := decide_eq_true c2
    have c2b1 : decide (48 < a0.size) = true := decide_eq_true (by omega)
    clear c2
    by_cases c3 : 0 ≤ 48
    · rw [if_pos c3] at H
      have c3b0 := eq_true c3
      have c3b1 : decide (0 ≤ 48) = true := decide_eq_true c3
      clear c3
      by_cases c4 : 48 ≤ (a0.size : Int)
      · rw [if_pos c4] at H
        have c4b0 := eq_true c4
        have c4b1 : decide (48 ≤ (a0.size : Int)) = true := decide_eq_true c4
        clear c4
        obtain rfl := Option.some.inj H
        go_enter Try.func28, Try.ntmps28
        go_wp2
        go_ret
        exact ⟨by first | rfl | (simp [errW_none, errW_some] <;> rfl) | (simp [*, errW_none, errW_some] <;> rfl), by repeat (first | (with_reducible first | exact HB.out | apply below_alloc | apply pw_below_drewN | apply below_drew1) | exact HB.out)⟩
      · rw [if_neg c4] at H
        exact absurd H (by simp)
    · rw [if_neg c3] at H
      exact absurd H (by simp)
  · rw [if_neg c2] at H
    have c2b0 : decide (48 < (a0.size : Int)) = false := decide_eq_false c2
    have c2b1 : decide (48 < a0.size) = false := decide_eq_false (by omega)
    clear c2
    replace H := Option.bind_eq_some_iff.mp H
    obtain ⟨t137, A50, H⟩ := H
    replace H : (if a0.size + t137.size ≤ 9223372036854775807 then (some (a0 ++ t137)) else (none)) = some r := H
    have A5 := Aside0.mk A50
    clear A50
    by_cases c6 : a0.size + t137.size ≤ 9223372036854775807
    · rw [if_pos c6] at H
      have c6b0 := eq_true c6
      have c6b1 : decide (a0.size + t137.size ≤ 9223372036854775807) = true := decide_eq_true c6
      try have c6b2 : (9223372036854775807 < a0.size + t137.size) = False := eq_false (Nat.not_lt.2 c6)
      obtain rfl := Option.some.inj H
      go_enter Try.func28, Try.ntmps28
      go_wp2_with (first | ((with_reducible refine gate_callee (f := 42) rfl ?_); refine goesL_ (some 12) rfl rfl Try.func42 (by kernel_rfl) rfl #[.string (⟨#[0]⟩ : ByteArray), .int .i64 (48 - (a0.size : Int))] rfl (by (try simp only [List.map_toArray, List.map_cons, List.map_nil]); first | done | rfl | (simp only [List.length_drop, List.length_take]; rfl)) ?_; (with_reducible refine (strings_Repeat.calls (⟨#[0]⟩ : ByteArray) (48 - (a0.size : Int)) t137 _ (by have h_ := A5.out; rwa [show wrap64 (48 - (a0.size : Int)) = 48 - (a0.size : Int) from by (have hz_ := of_decide_eq_false c2b0); unfold wrap64; omega] at h_)).mono ?_); rintro e w7 ⟨rfl, hb⟩; refine ⟨_, rfl, ?_⟩; have n0_ := Aside0.mk (below_step (by repeat (first | (with_reducible first | exact HB.out | apply below_alloc | apply pw_below_drewN | apply below_drew1) | exact HB.out)) hb); clear HB; have HB := n0_; clear n0_; (try clear hb); (try clear hb2); (try clear hk); (try clear hi)))
      go_ret
      exact ⟨by first | rfl | (simp [errW_none, errW_some] <;> rfl) | (simp [*, errW_none, errW_some] <;> rfl), by repeat (first | (with_reducible first | exact HB.out | apply below_alloc | apply pw_below_drewN | apply below_drew1) | exact HB.out)⟩
    · rw [if_neg c6] at H
      exact absurd H (by simp)

/-! ### ccm_Msg_wrong: function 47 -/
def ccm_Msg_wrong.j0 : Nat → Bool → Bool → Int → Int → Int → ByteArray → Option (Int)
  | 0, _, _, _, _, _, _ => none
  | k + 1, x7, x139000, x139001, x139002, x139003, x139004 => if x7 = true then (some 4) else (if (x139004.size : Int) = 48 then (some 0) else (some 3))
def ccm_Msg_wrong.f (k : Nat) (a0_0 : Bool) (a0_1 : Int) (a0_2 : Int) (a0_3 : Int) (a0_4 : ByteArray) : Option (Int) := if a0_1 < 1 then (some 4) else (if a0_1 > 7 then (ccm_Msg_wrong.j0 k (decide (a0_1 > 7)) a0_0 a0_1 a0_2 a0_3 a0_4) else (if a0_3 < 1 then (ccm_Msg_wrong.j0 k (decide (a0_3 < 1)) a0_0 a0_1 a0_2 a0_3 a0_4) else (ccm_Msg_wrong.j0 k (decide (a0_3 > 8191)) a0_0 a0_1 a0_2 a0_3 a0_4)))
theorem ccm_Msg_wrong.mono_l : ∀ k, (∀ y0 y1 y2 y3 y4 y5, LeO (ccm_Msg_wrong.j0 k y0 y1 y2 y3 y4 y5) (ccm_Msg_wrong.j0 (k + 1) y0 y1 y2 y3 y4 y5))
  | 0 => fun _ _ _ _ _ _ r h => by simp [ccm_Msg_wrong.j0] at h
  | k + 1 => by
    have ih0 := ccm_Msg_wrong.mono_l k
    · intro y0 y1 y2 y3 y4 y5
      unfold ccm_Msg_wrong.j0
      repeat' first
      | (with_reducible exact ih0 _ _ _ _ _ _)
      | (with_reducible exact LeO.refl _)
      | (with_reducible exact LeO.none _)
      | (with_reducible refine LeO.ite ?_ ?_)
      | (with_reducible refine LeO.bind ?_ (fun _ => ?_))
      | exact ih0 _ _ _ _ _ _
      | exact LeO.none _
      | refine LeO.ite ?_ ?_
      | refine LeO.bind ?_ (fun _ => ?_)
theorem ccm_Msg_wrong.mono : ∀ a0 a1 a2 a3 a4 k, LeO (ccm_Msg_wrong.f k a0 a1 a2 a3 a4) (ccm_Msg_wrong.f (k + 1) a0 a1 a2 a3 a4) := by
  intro a0 a1 a2 a3 a4 k
  have ih0 := ccm_Msg_wrong.mono_l k
  unfold ccm_Msg_wrong.f
  repeat' first
      | (with_reducible exact ih0 _ _ _ _ _ _)
      | (with_reducible exact LeO.refl _)
      | (with_reducible exact LeO.none _)
      | (with_reducible refine LeO.ite ?_ ?_)
      | (with_reducible refine LeO.bind ?_ (fun _ => ?_))
      | exact ih0 _ _ _ _ _ _
      | exact LeO.none _
      | refine LeO.ite ?_ ?_
      | refine LeO.bind ?_ (fun _ => ?_)
set_option maxHeartbeats 8000000 in
set_option maxRecDepth 100000 in
theorem ccm_Msg_wrong.calls (k : Nat) (a0_0 : Bool) (a0_1 : Int) (a0_2 : Int) (a0_3 : Int) (a0_4 : ByteArray) (r : Int) (w : World) (h : ccm_Msg_wrong.f k a0_0 a0_1 a0_2 a0_3 a0_4 = some r) :
    Calls Try.prog 47 #[.agg #[.bool a0_0, .int .u8 a0_1, .int .u32 a0_2, .int .u16 a0_3, .string a0_4]] w fun e w' => e = .returned (.int .i64 r) ∧ Below w.heap.size w w' := by
  have hu62 := Try.underlying62
  have HB := Aside0.mk (Below.refl w.heap.size w)
  have H : (if a0_1 < 1 then (some 4) else (if a0_1 > 7 then (ccm_Msg_wrong.j0 k (decide (a0_1 > 7)) a0_0 a0_1 a0_2 a0_3 a0_4) else (if a0_3 < 1 then (ccm_Msg_wrong.j0 k (decide (a0_3 < 1)) a0_0 a0_1 a0_2 a0_3 a0_4) else (ccm_Msg_wrong.j0 k (decide (a0_3 > 8191)) a0_0 a0_1 a0_2 a0_3 a0_4)))) = some r := h
  clear h
  by_cases c2 : a0_1 < 1
  · rw [if_pos c2] at H
    have c2b0 : decide (a0_1 < 1) = true := decide_eq_true c2
    clear c2
    obtain rfl := Option.some.inj H
    go_enter Try.func47, Try.ntmps47
    go_wp2_with (first | ((with_reducible refine gate_dst (N := 1) rfl ?_); refine box_event ?hg (N := 1) ?hd (cs := #[.bool a0_0, .int .u8 a0_1, .int .u32 a0_2, .int .u16 a0_3, .string a0_4]) (t := 62) ?hr ?_; (case hd => rfl); (case hg => rfl); (case hr => first | (go_simp; done) | (go_simp; rfl)); intro gb138 hg w3 hbox hb; have n0_ := Aside0.mk (below_step (by repeat (first | (with_reducible first | exact HB.out | apply below_alloc | apply pw_below_drewN | apply below_drew1) | exact HB.out)) hb); have n1_ := Aside0.mk (hbox); have n2_ := Aside0.mk ((by rw [hg]; exact (below_size (by repeat (first | (with_reducible first | exact HB.out | apply below_alloc | apply pw_below_drewN | apply below_drew1) | exact HB.out))) : w.heap.size ≤ gb138)); have n3_ := Aside0.mk ((by rw [hg]; exact (below_size (by repeat (first | (with_reducible first | exact HB.out | apply below_alloc | apply pw_below_drewN | apply below_drew1) | exact HB.out))) : w.heap.size ≤ gb138)); clear HB; have HB := n0_; have BK138 := n1_; have GW138 := n2_; have GE138 := n3_; clear n0_ n1_ n2_ n3_; clear hb hbox hg; have hcz4_0 : w3.cell? ⟨gb138, 0, none⟩ = some (.bool a0_0) := (blk_cell BK138.out 0).trans rfl; have hcz4_1 : w3.cell? ⟨gb138, 1, none⟩ = some (.int .u8 a0_1) := (blk_cell BK138.out 1).trans rfl; have hcz4_2 : w3.cell? ⟨gb138, 2, none⟩ = some (.int .u32 a0_2) := (blk_cell BK138.out 2).trans rfl; have hcz4_3 : w3.cell? ⟨gb138, 3, none⟩ = some (.int .u16 a0_3) := (blk_cell BK138.out 3).trans rfl; have hcz4_4 : w3.cell? ⟨gb138, 4, none⟩ = some (.string a0_4) := (blk_cell BK138.out 4).trans rfl; have hfz4_0 := blk_frozen BK138.out 0; have hfz4_1 := blk_frozen BK138.out 1; have hfz4_2 := blk_frozen BK138.out 2; have hfz4_3 := blk_frozen BK138.out 3; have hfz4_4 := blk_frozen BK138.out 4))
    go_ret
    exact ⟨by first | rfl | (simp [errW_none, errW_some] <;> rfl) | (simp [*, errW_none, errW_some] <;> rfl), by repeat (first | (with_reducible first | exact HB.out | apply below_alloc | apply pw_below_drewN | apply below_drew1 | refine below_set ?_ GE138.out) | exact HB.out)⟩
  · rw [if_neg c2] at H
    have c2b0 : decide (a0_1 < 1) = false := decide_eq_false c2
    clear c2
    have HC5 := Aside0.mk H
    clear H
    go_enter Try.func47, Try.ntmps47
    go_upto_if 7 with (first | ((with_reducible refine gate_dst (N := 1) rfl ?_); refine box_event ?hg (N := 1) ?hd (cs := #[.bool a0_0, .int .u8 a0_1, .int .u32 a0_2, .int .u16 a0_3, .string a0_4]) (t := 62) ?hr ?_; (case hd => rfl); (case hg => rfl); (case hr => first | (go_simp; done) | (go_simp; rfl)); intro gb138 hg w6 hbox hb; have n0_ := Aside0.mk (below_step (by repeat (first | (with_reducible first | exact HB.out | apply below_alloc | apply pw_below_drewN | apply below_drew1) | exact HB.out)) hb); have n1_ := Aside0.mk (hbox); have n2_ := Aside0.mk ((by rw [hg]; exact (below_size (by repeat (first | (with_reducible first | exact HB.out | apply below_alloc | apply pw_below_drewN | apply below_drew1) | exact HB.out))) : w.heap.size ≤ gb138)); have n3_ := Aside0.mk ((by rw [hg]; exact (below_size (by repeat (first | (with_reducible first | exact HB.out | apply below_alloc | apply pw_below_drewN | apply below_drew1) | exact HB.out))) : w.heap.size ≤ gb138)); clear HB; have HB := n0_; have BK138 := n1_; have GW138 := n2_; have GE138 := n3_; clear n0_ n1_ n2_ n3_; clear hb hbox hg; have hcz7_0 : w6.cell? ⟨gb138, 0, none⟩ = some (.bool a0_0) := (blk_cell BK138.out 0).trans rfl; have hcz7_1 : w6.cell? ⟨gb138, 1, none⟩ = some (.int .u8 a0_1) := (blk_cell BK138.out 1).trans rfl; have hcz7_2 : w6.cell? ⟨gb138, 2, none⟩ = some (.int .u32 a0_2) := (blk_cell BK138.out 2).trans rfl; have hcz7_3 : w6.cell? ⟨gb138, 3, none⟩ = some (.int .u16 a0_3) := (blk_cell BK138.out 3).trans rfl; have hcz7_4 : w6.cell? ⟨gb138, 4, none⟩ = some (.string a0_4) := (blk_cell BK138.out 4).trans rfl; have hfz7_0 := blk_frozen BK138.out 0; have hfz7_1 := blk_frozen BK138.out 1; have hfz7_2 := blk_frozen BK138.out 2; have hfz7_3 := blk_frozen BK138.out 3; have hfz7_4 := blk_frozen BK138.out 4))
    (try simp only [Act.put, List.setIfInBounds_toArray, List.set_cons_zero, List.set_cons_succ])
    go_cut [7] (fun v7 wc => ∃ (kq : Nat) (x7_4 : Bool), v7 = .bool x7_4 ∧ Aside0 (ccm_Msg_wrong.j0 kq x7_4 a0_0 a0_1 a0_2 a0_3 a0_4 = some r) ∧ Aside0 (kq ≤ k) ∧ Aside0 (wc.heap[gb138]? = some (.cells #[.bool a0_0, .int .u8 a0_1, .int .u32 a0_2, .int .u16 a0_3, .string a0_4] 62 (0, 0))) ∧ Aside0 (Below w.heap.size w wc))
    case first =>
      have H := HC5.out
      clear HC5
      by_cases c8 : a0_1 > 7
      · rw [if_pos c8] at H
        have c8b0 : decide (7 < a0_1) = true := decide_eq_true c8
        clear c8
        (first | rw [c8b0] | (simp only [i64_w, i32_w]; rw [c8b0]) | skip)
        have H' := Aside0.mk H
        clear H
        go_wp2
        go_meet
        case rel => exact ⟨_, (decide (a0_1 > 7)), (by first | rfl | (simp; done) | (simp [*]; done)), H', ⟨by first | omega | exact Nat.le_refl _⟩, ⟨by (with_reducible repeat (first | refine blk_drewN ?_ _ | refine blk_drew ?_ | refine blk_alloc ?_ _)); exact BK138.out⟩, ⟨by repeat (first | (with_reducible first | exact HB.out | apply below_alloc | apply pw_below_drewN | apply below_drew1 | refine below_set ?_ GE138.out) | exact HB.out)⟩⟩
      · rw [if_neg c8] at H
        have c8b0 : decide (7 < a0_1) = false := decide_eq_false c8
        clear c8
        (first | rw [c8b0] | (simp only [i64_w, i32_w]; rw [c8b0]) | skip)
        by_cases c9 : a0_3 < 1
        · rw [if_pos c9] at H
          have c9b0 : decide (a0_3 < 1) = true := decide_eq_true c9
          clear c9
          have H' := Aside0.mk H
          clear H
          have hcz10_0 : w6.cell? ⟨gb138, 0, none⟩ = some (.bool a0_0) := (blk_cell BK138.out 0).trans rfl
          have hcz10_1 : w6.cell? ⟨gb138, 1, none⟩ = some (.int .u8 a0_1) := (blk_cell BK138.out 1).trans rfl
          have hcz10_2 : w6.cell? ⟨gb138, 2, none⟩ = some (.int .u32 a0_2) := (blk_cell BK138.out 2).trans rfl
          have hcz10_3 : w6.cell? ⟨gb138, 3, none⟩ = some (.int .u16 a0_3) := (blk_cell BK138.out 3).trans rfl
          have hcz10_4 : w6.cell? ⟨gb138, 4, none⟩ = some (.string a0_4) := (blk_cell BK138.out 4).trans rfl
          have hfz10_0 := blk_frozen BK138.out 0
          have hfz10_1 := blk_frozen BK138.out 1
          have hfz10_2 := blk_frozen BK138.out 2
          have hfz10_3 := blk_frozen BK138.out 3
          have hfz10_4 := blk_frozen BK138.out 4
          go_wp2
          go_meet
          case rel => exact ⟨_, (decide (a0_3 < 1)), (by first | rfl | (simp; done) | (simp [*]; done)), H', ⟨by first | omega | exact Nat.le_refl _⟩, ⟨by (with_reducible repeat (first | refine blk_drewN ?_ _ | refine blk_drew ?_ | refine blk_alloc ?_ _)); exact BK138.out⟩, ⟨by repeat (first | (with_reducible first | exact HB.out | apply below_alloc | apply pw_below_drewN | apply below_drew1 | refine below_set ?_ GE138.out) | exact HB.out)⟩⟩
        · rw [if_neg c9] at H
          have c9b0 : decide (a0_3 < 1) = false := decide_eq_false c9
          clear c9
          have H' := Aside0.mk H
          clear H
          have hcz11_0 : w6.cell? ⟨gb138, 0, none⟩ = some (.bool a0_0) := (blk_cell BK138.out 0).trans rfl
          have hcz11_1 : w6.cell? ⟨gb138, 1, none⟩ = some (.int .u8 a0_1) := (blk_cell BK138.out 1).trans rfl
          have hcz11_2 : w6.cell? ⟨gb138, 2, none⟩ = some (.int .u32 a0_2) := (blk_cell BK138.out 2).trans rfl
          have hcz11_3 : w6.cell? ⟨gb138, 3, none⟩ = some (.int .u16 a0_3) := (blk_cell BK138.out 3).trans rfl
          have hcz11_4 : w6.cell? ⟨gb138, 4, none⟩ = some (.string a0_4) := (blk_cell BK138.out 4).trans rfl
          have hfz11_0 := blk_frozen BK138.out 0
          have hfz11_1 := blk_frozen BK138.out 1
          have hfz11_2 := blk_frozen BK138.out 2
          have hfz11_3 := blk_frozen BK138.out 3
          have hfz11_4 := blk_frozen BK138.out 4
          go_wp2
          go_meet
          case rel => exact ⟨_, (decide (a0_3 > 8191)), (by first | rfl | (simp; done) | (simp [*]; done)), H', ⟨by first | omega | exact Nat.le_refl _⟩, ⟨by (with_reducible repeat (first | refine blk_drewN ?_ _ | refine blk_drew ?_ | refine blk_alloc ?_ _)); exact BK138.out⟩, ⟨by repeat (first | (with_reducible first | exact HB.out | apply below_alloc | apply pw_below_drewN | apply below_drew1 | refine below_set ?_ GE138.out) | exact HB.out)⟩⟩
    case rest =>
      clear HC5
      try clear c2
      try clear c2b0
      try clear p2
      try clear c4
      try clear c8
      try clear c8b0
      try clear c9
      try clear c9b0
      try clear hcz10_0
      try clear hcz10_1
      try clear hcz10_2
      try clear hcz10_3
      try clear hcz10_4
      try clear hcz11_0
      try clear hcz11_1
      try clear hcz11_2
      try clear hcz11_3
      try clear hcz11_4
      try clear hcz4_0
      try clear hcz4_1
      try clear hcz4_2
      try clear hcz4_3
      try clear hcz4_4
      try clear hcz7_0
      try clear hcz7_1
      try clear hcz7_2
      try clear hcz7_3
      try clear hcz7_4
      try clear hfz10_0
      try clear hfz10_1
      try clear hfz10_2
      try clear hfz10_3
      try clear hfz10_4
      try clear hfz11_0
      try clear hfz11_1
      try clear hfz11_2
      try clear hfz11_3
      try clear hfz11_4
      try clear hfz4_0
      try clear hfz4_1
      try clear hfz4_2
      try clear hfz4_3
      try clear hfz4_4
      try clear hfz7_0
      try clear hfz7_1
      try clear hfz7_2
      try clear hfz7_3
      try clear hfz7_4
      obtain ⟨kq, x7_4, rfl, HA, HJ4, BK138, HB⟩ := hcut
      cases kq with
      | zero => exact absurd HA.out (by simp [ccm_Msg_wrong.j0])
      | succ kj4 =>
        have H := HA.out
        clear HA
        simp only [ccm_Msg_wrong.j0] at H
        by_cases c12 : x7_4 = true
        · subst c12
          have H1 : (some 4) = some r := by rw [if_pos rfl] at H; exact H
          clear H
          have H := H1
          clear H1
          obtain rfl := Option.some.inj H
          go_wp2
          go_ret
          exact ⟨by first | rfl | (simp [errW_none, errW_some] <;> rfl) | (simp [*, errW_none, errW_some] <;> rfl), by repeat (first | (with_reducible first | exact HB.out | apply below_alloc | apply pw_below_drewN | apply below_drew1 | refine below_set ?_ GE138.out) | exact HB.out)⟩
        · replace c12 := Bool.eq_false_iff.mpr c12
          subst c12
          have H1 : (if (a0_4.size : Int) = 48 then (some 0) else (some 3)) = some r := by rw [if_neg (show ¬ (false = true) by decide)] at H; exact H
          clear H
          have H := H1
          clear H1
          by_cases c13 : (a0_4.size : Int) = 48
          · rw [if_pos c13] at H
            have c13b0 : ((a0_4.size : Int) == 48) = true := beq_iff_eq.mpr c13
            have c13b1 : ((a0_4.size : Int) != 48) = false := bne_eq_false_iff_eq.mpr c13
            clear c13
            obtain rfl := Option.some.inj H
            have hcz14_0 : wc.cell? ⟨gb138, 0, none⟩ = some (.bool a0_0) := (blk_cell BK138.out 0).trans rfl
            have hcz14_1 : wc.cell? ⟨gb138, 1, none⟩ = some (.int .u8 a0_1) := (blk_cell BK138.out 1).trans rfl
            have hcz14_2 : wc.cell? ⟨gb138, 2, none⟩ = some (.int .u32 a0_2) := (blk_cell BK138.out 2).trans rfl
            have hcz14_3 : wc.cell? ⟨gb138, 3, none⟩ = some (.int .u16 a0_3) := (blk_cell BK138.out 3).trans rfl
            have hcz14_4 : wc.cell? ⟨gb138, 4, none⟩ = some (.string a0_4) := (blk_cell BK138.out 4).trans rfl
            have hfz14_0 := blk_frozen BK138.out 0
            have hfz14_1 := blk_frozen BK138.out 1
            have hfz14_2 := blk_frozen BK138.out 2
            have hfz14_3 := blk_frozen BK138.out 3
            have hfz14_4 := blk_frozen BK138.out 4
            go_wp2
            go_ret
            exact ⟨by first | rfl | (simp [errW_none, errW_some] <;> rfl) | (simp [*, errW_none, errW_some] <;> rfl), by repeat (first | (with_reducible first | exact HB.out | apply below_alloc | apply pw_below_drewN | apply below_drew1 | refine below_set ?_ GE138.out) | exact HB.out)⟩
          · rw [if_neg c13] at H
            have c13b0 : ((a0_4.size : Int) == 48) = false := beq_eq_false_iff_ne.mpr c13
            have c13b1 : ((a0_4.size : Int) != 48) = true := bne_iff_ne.mpr c13
            obtain rfl := Option.some.inj H
            have hcz15_0 : wc.cell? ⟨gb138, 0, none⟩ = some (.bool a0_0) := (blk_cell BK138.out 0).trans rfl
            have hcz15_1 : wc.cell? ⟨gb138, 1, none⟩ = some (.int .u8 a0_1) := (blk_cell BK138.out 1).trans rfl
            have hcz15_2 : wc.cell? ⟨gb138, 2, none⟩ = some (.int .u32 a0_2) := (blk_cell BK138.out 2).trans rfl
            have hcz15_3 : wc.cell? ⟨gb138, 3, none⟩ = some (.int .u16 a0_3) := (blk_cell BK138.out 3).trans rfl
            have hcz15_4 : wc.cell? ⟨gb138, 4, none⟩ = some (.string a0_4) := (blk_cell BK138.out 4).trans rfl
            have hfz15_0 := blk_frozen BK138.out 0
            have hfz15_1 := blk_frozen BK138.out 1
            have hfz15_2 := blk_frozen BK138.out 2
            have hfz15_3 := blk_frozen BK138.out 3
            have hfz15_4 := blk_frozen BK138.out 4
            go_wp2
            go_ret
            exact ⟨by first | rfl | (simp [errW_none, errW_some] <;> rfl) | (simp [*, errW_none, errW_some] <;> rfl), by repeat (first | (with_reducible first | exact HB.out | apply below_alloc | apply pw_below_drewN | apply below_drew1 | refine below_set ?_ GE138.out) | exact HB.out)⟩

/-! ### oam_Close: function 56 -/
def oam_Close.f (a0_0 : Int) (a0_1 : Int) (a0_2 : Int) (a0_3 : Int) (a0_4 : Int) (a1 : ByteArray) : Option (ByteArray × Int) := (field_Pack.f (([(⟨3, IntKind.u64.wrap (a0_0)⟩ : S100), (⟨5, IntKind.u64.wrap (a0_1)⟩ : S100), (⟨8, IntKind.u64.wrap (a0_2)⟩ : S100), (⟨8, IntKind.u64.wrap (a0_3)⟩ : S100), (⟨8, IntKind.u64.wrap (a0_4)⟩ : S100)] : List (S100)))).bind fun bt143 => (if bt143.2 = 0 then (if (a1.size : Int) = (wrap64 (a0_4)) then (if bt143.1.size + a1.size ≤ 9223372036854775807 then (if bt143.1.size + a1.size + 1 ≤ 9223372036854775807 then (some ((bt143.1 ++ a1) ++ (⟨#[0]⟩ : ByteArray), 0)) else (none)) else (none)) else (some ((⟨#[]⟩ : ByteArray), 3))) else (some ((⟨#[]⟩ : ByteArray), bt143.2)))
set_option maxHeartbeats 8000000 in
set_option maxRecDepth 100000 in
theorem oam_Close.calls (a0_0 : Int) (a0_1 : Int) (a0_2 : Int) (a0_3 : Int) (a0_4 : Int) (a1 : ByteArray) (r1 : ByteArray) (r2 : Int) (w : World) (h : oam_Close.f a0_0 a0_1 a0_2 a0_3 a0_4 a1 = some (r1, r2)) :
    Calls Try.prog 56 #[.agg #[.int .u8 a0_0, .int .u8 a0_1, .int .u8 a0_2, .int .u8 a0_3, .int .u8 a0_4], .string a1] w fun e w' => e = .returned (.tuple #[.string r1, .int .i64 r2]) ∧ Below w.heap.size w w' := by
  have hu84 := Try.underlying84
  have hu100 := Try.underlying100
  have HB := Aside0.mk (Below.refl w.heap.size w)
  have H : ((field_Pack.f (([(⟨3, IntKind.u64.wrap (a0_0)⟩ : S100), (⟨5, IntKind.u64.wrap (a0_1)⟩ : S100), (⟨8, IntKind.u64.wrap (a0_2)⟩ : S100), (⟨8, IntKind.u64.wrap (a0_3)⟩ : S100), (⟨8, IntKind.u64.wrap (a0_4)⟩ : S100)] : List (S100)))).bind fun bt143 => (if bt143.2 = 0 then (if (a1.size : Int) = (wrap64 (a0_4)) then (if bt143.1.size + a1.size ≤ 9223372036854775807 then (if bt143.1.size + a1.size + 1 ≤ 9223372036854775807 then (some ((bt143.1 ++ a1) ++ (⟨#[0]⟩ : ByteArray), 0)) else (none)) else (none)) else (some ((⟨#[]⟩ : ByteArray), 3))) else (some ((⟨#[]⟩ : ByteArray), bt143.2)))) = some (r1, r2) := h
  clear h
  obtain ⟨y140, hy140⟩ : ∃ y_ : List (S100), y_ = (([(⟨3, IntKind.u64.wrap (a0_0)⟩ : S100), (⟨5, IntKind.u64.wrap (a0_1)⟩ : S100), (⟨8, IntKind.u64.wrap (a0_2)⟩ : S100), (⟨8, IntKind.u64.wrap (a0_3)⟩ : S100), (⟨8, IntKind.u64.wrap (a0_4)⟩ : S100)] : List (S100))) := ⟨_, rfl⟩
  replace H : ((field_Pack.f y140).bind fun bt143 => (if bt143.2 = 0 then (if (a1.size : Int) = (wrap64 (a0_4)) then (if bt143.1.size + a1.size ≤ 9223372036854775807 then (if bt143.1.size + a1.size + 1 ≤ 9223372036854775807 then (some ((bt143.1 ++ a1) ++ (⟨#[0]⟩ : ByteArray), 0)) else (none)) else (none)) else (some ((⟨#[]⟩ : ByteArray), 3))) else (some ((⟨#[]⟩ : ByteArray), bt143.2)))) = some (r1, r2) := by first | (rw [hy140]; with_reducible exact H) | (have H2_ := (Option.bind_some _ _).symm.trans H; rw [hy140]; with_reducible exact H2_) | (have H2_ := (Option.bind_some _ _).symm.trans H; with_reducible exact H2_) | with_reducible exact H | (rw [hy140]; exact H) | exact H
  have Ny140 := Aside0.mk hy140
  clear hy140
  replace H := Option.bind_eq_some_iff.mp H
  obtain ⟨⟨t143, t144⟩, A30, H⟩ := H
  replace H : (if t144 = 0 then (if (a1.size : Int) = (wrap64 (a0_4)) then (if t143.size + a1.size ≤ 9223372036854775807 then (if t143.size + a1.size + 1 ≤ 9223372036854775807 then (some ((t143 ++ a1) ++ (⟨#[0]⟩ : ByteArray), 0)) else (none)) else (none)) else (some ((⟨#[]⟩ : ByteArray), 3))) else (some ((⟨#[]⟩ : ByteArray), t144))) = some (r1, r2) := H
  have A3 := Aside0.mk A30
  clear A30
  by_cases c4 : t144 = 0
  · rw [if_pos c4] at H
    have c4b0 : (t144 == 0) = true := beq_iff_eq.mpr c4
    have c4b1 : (t144 != 0) = false := bne_eq_false_iff_eq.mpr c4
    clear c4
    by_cases c5 : (a1.size : Int) = (wrap64 (a0_4))
    · rw [if_pos c5] at H
      have c5b0 : ((a1.size : Int) == (wrap64 (a0_4))) = true := beq_iff_eq.mpr c5
      have c5b1 : ((a1.size : Int) != (wrap64 (a0_4))) = false := bne_eq_false_iff_eq.mpr c5
      clear c5
      by_cases c6 : t143.size + a1.size ≤ 9223372036854775807
      · rw [if_pos c6] at H
        have c6b0 := eq_true c6
        have c6b1 : decide (t143.size + a1.size ≤ 9223372036854775807) = true := decide_eq_true c6
        try have c6b2 : (9223372036854775807 < t143.size + a1.size) = False := eq_false (Nat.not_lt.2 c6)
        by_cases c7 : t143.size + a1.size + 1 ≤ 9223372036854775807
        · rw [if_pos c7] at H
          have c7b0 := eq_true c7
          have c7b1 : decide (t143.size + a1.size + 1 ≤ 9223372036854775807) = true := decide_eq_true c7
          try have c7b2 : (9223372036854775807 < t143.size + a1.size + 1) = False := eq_false (Nat.not_lt.2 c7)
          simp only [Option.some.injEq, Prod.mk.injEq] at H
          obtain ⟨rfl, rfl⟩ := H
          go_enter Try.func56, Try.ntmps56
          go_wp2_with (first | ((with_reducible refine gate_dst (N := 2) rfl ?_); refine box_event ?hg (N := 2) ?hd (cs := #[.int .u8 a0_0, .int .u8 a0_1, .int .u8 a0_2, .int .u8 a0_3, .int .u8 a0_4]) (t := 84) ?hr ?_; (case hd => rfl); (case hg => rfl); (case hr => first | (go_simp; done) | (go_simp; rfl)); intro gb139 hg w8 hbox hb; have n0_ := Aside0.mk (below_step (by repeat (first | (with_reducible first | exact HB.out | apply below_alloc | apply pw_below_drewN | apply below_drew1) | exact HB.out)) hb); have n1_ := Aside0.mk (hbox); have n2_ := Aside0.mk ((by rw [hg]; exact (below_size (by repeat (first | (with_reducible first | exact HB.out | apply below_alloc | apply pw_below_drewN | apply below_drew1) | exact HB.out))) : w.heap.size ≤ gb139)); have n3_ := Aside0.mk ((by rw [hg]; exact (below_size (by repeat (first | (with_reducible first | exact HB.out | apply below_alloc | apply pw_below_drewN | apply below_drew1) | exact HB.out))) : w.heap.size ≤ gb139)); clear HB; have HB := n0_; have BK139 := n1_; have GW139 := n2_; have GE139 := n3_; clear n0_ n1_ n2_ n3_; clear hb hbox hg; have hcz9_0 : w8.cell? ⟨gb139, 0, none⟩ = some (.int .u8 a0_0) := (blk_cell BK139.out 0).trans rfl; have hcz9_1 : w8.cell? ⟨gb139, 1, none⟩ = some (.int .u8 a0_1) := (blk_cell BK139.out 1).trans rfl; have hcz9_2 : w8.cell? ⟨gb139, 2, none⟩ = some (.int .u8 a0_2) := (blk_cell BK139.out 2).trans rfl; have hcz9_3 : w8.cell? ⟨gb139, 3, none⟩ = some (.int .u8 a0_3) := (blk_cell BK139.out 3).trans rfl; have hcz9_4 : w8.cell? ⟨gb139, 4, none⟩ = some (.int .u8 a0_4) := (blk_cell BK139.out 4).trans rfl; have hfz9_0 := blk_frozen BK139.out 0; have hfz9_1 := blk_frozen BK139.out 1; have hfz9_2 := blk_frozen BK139.out 2; have hfz9_3 := blk_frozen BK139.out 3; have hfz9_4 := blk_frozen BK139.out 4) | ((with_reducible refine gate_dst (N := 29) rfl ?_); refine Kd.R_lit k100 _ 100 ?hg (N := 29) ?hd (xs := ([(⟨3, IntKind.u64.wrap (a0_0)⟩ : S100), (⟨5, IntKind.u64.wrap (a0_1)⟩ : S100), (⟨8, IntKind.u64.wrap (a0_2)⟩ : S100), (⟨8, IntKind.u64.wrap (a0_3)⟩ : S100), (⟨8, IntKind.u64.wrap (a0_4)⟩ : S100)] : List (S100))) (inner := [.int .i64 3, .int .u64 (IntKind.u64.wrap (a0_0)), .int .i64 5, .int .u64 (IntKind.u64.wrap (a0_1)), .int .i64 8, .int .u64 (IntKind.u64.wrap (a0_2)), .int .i64 8, .int .u64 (IntKind.u64.wrap (a0_3)), .int .i64 8, .int .u64 (IntKind.u64.wrap (a0_4))]) (ok := fun _ => True) (okp := fun _ => True) ?hr ?hp (fun _ hk => hk) trivial (Below.refl _ _) (Nat.le_refl _) (by simp) ?_; (case hd => rfl); (case hg => rfl); (case hr => first | (go_simp; done) | (go_simp; rfl)); (case hp => exact (Reps.c2 (show Kd.M k100 _ _ _ (⟨3, IntKind.u64.wrap (a0_0)⟩ : S100) [.int .i64 3, .int .u64 (IntKind.u64.wrap (a0_0))] from (k100_mkM _ _ _ (⟨3, IntKind.u64.wrap (a0_0)⟩ : S100) )) (Reps.c2 (show Kd.M k100 _ _ _ (⟨5, IntKind.u64.wrap (a0_1)⟩ : S100) [.int .i64 5, .int .u64 (IntKind.u64.wrap (a0_1))] from (k100_mkM _ _ _ (⟨5, IntKind.u64.wrap (a0_1)⟩ : S100) )) (Reps.c2 (show Kd.M k100 _ _ _ (⟨8, IntKind.u64.wrap (a0_2)⟩ : S100) [.int .i64 8, .int .u64 (IntKind.u64.wrap (a0_2))] from (k100_mkM _ _ _ (⟨8, IntKind.u64.wrap (a0_2)⟩ : S100) )) (Reps.c2 (show Kd.M k100 _ _ _ (⟨8, IntKind.u64.wrap (a0_3)⟩ : S100) [.int .i64 8, .int .u64 (IntKind.u64.wrap (a0_3))] from (k100_mkM _ _ _ (⟨8, IntKind.u64.wrap (a0_3)⟩ : S100) )) (Reps.c2 (show Kd.M k100 _ _ _ (⟨8, IntKind.u64.wrap (a0_4)⟩ : S100) [.int .i64 8, .int .u64 (IntKind.u64.wrap (a0_4))] from (k100_mkM _ _ _ (⟨8, IntKind.u64.wrap (a0_4)⟩ : S100) )) (Reps.none _ _))))))); intro v141 w10 ho11 hb hg_ hnew_; clear hg_ hnew_; (first | rw [← Ny140.out] at ho11 | (simp only [Int.reduceToNat] at ho11; rw [← Ny140.out] at ho11)); have n0_ := Aside0.mk (Kd.R_lower ho11 (below_size (by repeat (first | (with_reducible first | exact HB.out | apply below_alloc | apply pw_below_drewN | apply below_drew1 | refine below_set ?_ GE139.out) | exact HB.out)))); have n1_ := Aside0.mk (blk_below (g := gb139) (o := .cells #[.int .u8 a0_0, .int .u8 a0_1, .int .u8 a0_2, .int .u8 a0_3, .int .u8 a0_4] 84 (0, 0)) (by (with_reducible repeat (first | refine blk_drewN ?_ _ | refine blk_drew ?_ | refine blk_alloc ?_ _)); exact BK139.out) hb); have n2_ := Aside0.mk (below_step (by repeat (first | (with_reducible first | exact HB.out | apply below_alloc | apply pw_below_drewN | apply below_drew1 | refine below_set ?_ GE139.out) | exact HB.out)) hb); clear BK139; clear HB; have HO142 := n0_; have BK139 := n1_; have HB := n2_; clear n0_ n1_ n2_; clear hb ho11; obtain ⟨Ao12, co12, eo12⟩ := Kd.R_slice HO142.out; subst eo12) | ((with_reducible refine gate_callee (f := 55) rfl ?_); refine goesL_ (some 30) rfl rfl Try.func55 (by kernel_rfl) rfl #[.slice Ao12 y140.length co12] rfl (by (try simp only [List.map_toArray, List.map_cons, List.map_nil]); first | done | rfl | (simp only [List.length_drop, List.length_take]; rfl)) ?_; (with_reducible refine (field_Pack.calls _ _ y140 t143 t144 _ ?side1 ?side2 A3.out).mono ?_); (case side1 => repeat (first | exact (Kd.R_reads' HO142.out).2.2 | (with_reducible refine Kd.C_alloc ?_ _) | (with_reducible refine Kd.C_drewN ?_ _) | (with_reducible refine Kd.C_drew ?_))); (case side2 => exact (Kd.R_reads' HO142.out).2.1); rintro e w13 ⟨rfl, hb⟩; refine ⟨_, rfl, ?_⟩; have n0_ := Aside0.mk (Kd.R_below (by (with_reducible repeat (first | apply Kd.R_alloc | apply Kd.R_drewN | apply Kd.R_drew)); exact HO142.out) hb); have n1_ := Aside0.mk (blk_below (g := gb139) (o := .cells #[.int .u8 a0_0, .int .u8 a0_1, .int .u8 a0_2, .int .u8 a0_3, .int .u8 a0_4] 84 (0, 0)) (by (with_reducible repeat (first | refine blk_drewN ?_ _ | refine blk_drew ?_ | refine blk_alloc ?_ _)); exact BK139.out) hb); have n2_ := Aside0.mk (below_step (by repeat (first | (with_reducible first | exact HB.out | apply below_alloc | apply pw_below_drewN | apply below_drew1 | refine below_set ?_ GE139.out) | exact HB.out)) hb); clear HO142; clear BK139; clear HB; have HO142 := n0_; have BK139 := n1_; have HB := n2_; clear n0_ n1_ n2_; (try clear hb); (try clear hb2); (try clear hk); (try clear hi); have hcz14_0 : w13.cell? ⟨gb139, 0, none⟩ = some (.int .u8 a0_0) := (blk_cell BK139.out 0).trans rfl; have hcz14_1 : w13.cell? ⟨gb139, 1, none⟩ = some (.int .u8 a0_1) := (blk_cell BK139.out 1).trans rfl; have hcz14_2 : w13.cell? ⟨gb139, 2, none⟩ = some (.int .u8 a0_2) := (blk_cell BK139.out 2).trans rfl; have hcz14_3 : w13.cell? ⟨gb139, 3, none⟩ = some (.int .u8 a0_3) := (blk_cell BK139.out 3).trans rfl; have hcz14_4 : w13.cell? ⟨gb139, 4, none⟩ = some (.int .u8 a0_4) := (blk_cell BK139.out 4).trans rfl; have hfz14_0 := blk_frozen BK139.out 0; have hfz14_1 := blk_frozen BK139.out 1; have hfz14_2 := blk_frozen BK139.out 2; have hfz14_3 := blk_frozen BK139.out 3; have hfz14_4 := blk_frozen BK139.out 4))
          go_ret2
          exact ⟨by first | rfl | (simp [errW_none, errW_some] <;> rfl) | (simp [*, errW_none, errW_some] <;> rfl), by repeat (first | (with_reducible first | exact HB.out | apply below_alloc | apply pw_below_drewN | apply below_drew1 | refine below_set ?_ GE139.out) | exact HB.out)⟩
        · rw [if_neg c7] at H
          exact absurd H (by simp)
      · rw [if_neg c6] at H
        exact absurd H (by simp)
    · rw [if_neg c5] at H
      have c5b0 : ((a1.size : Int) == (wrap64 (a0_4))) = false := beq_eq_false_iff_ne.mpr c5
      have c5b1 : ((a1.size : Int) != (wrap64 (a0_4))) = true := bne_iff_ne.mpr c5
      simp only [Option.some.injEq, Prod.mk.injEq] at H
      obtain ⟨rfl, rfl⟩ := H
      go_enter Try.func56, Try.ntmps56
      go_wp2_with (first | ((with_reducible refine gate_dst (N := 2) rfl ?_); refine box_event ?hg (N := 2) ?hd (cs := #[.int .u8 a0_0, .int .u8 a0_1, .int .u8 a0_2, .int .u8 a0_3, .int .u8 a0_4]) (t := 84) ?hr ?_; (case hd => rfl); (case hg => rfl); (case hr => first | (go_simp; done) | (go_simp; rfl)); intro gb139 hg w15 hbox hb; have n0_ := Aside0.mk (below_step (by repeat (first | (with_reducible first | exact HB.out | apply below_alloc | apply pw_below_drewN | apply below_drew1) | exact HB.out)) hb); have n1_ := Aside0.mk (hbox); have n2_ := Aside0.mk ((by rw [hg]; exact (below_size (by repeat (first | (with_reducible first | exact HB.out | apply below_alloc | apply pw_below_drewN | apply below_drew1) | exact HB.out))) : w.heap.size ≤ gb139)); have n3_ := Aside0.mk ((by rw [hg]; exact (below_size (by repeat (first | (with_reducible first | exact HB.out | apply below_alloc | apply pw_below_drewN | apply below_drew1) | exact HB.out))) : w.heap.size ≤ gb139)); clear HB; have HB := n0_; have BK139 := n1_; have GW139 := n2_; have GE139 := n3_; clear n0_ n1_ n2_ n3_; clear hb hbox hg; have hcz16_0 : w15.cell? ⟨gb139, 0, none⟩ = some (.int .u8 a0_0) := (blk_cell BK139.out 0).trans rfl; have hcz16_1 : w15.cell? ⟨gb139, 1, none⟩ = some (.int .u8 a0_1) := (blk_cell BK139.out 1).trans rfl; have hcz16_2 : w15.cell? ⟨gb139, 2, none⟩ = some (.int .u8 a0_2) := (blk_cell BK139.out 2).trans rfl; have hcz16_3 : w15.cell? ⟨gb139, 3, none⟩ = some (.int .u8 a0_3) := (blk_cell BK139.out 3).trans rfl; have hcz16_4 : w15.cell? ⟨gb139, 4, none⟩ = some (.int .u8 a0_4) := (blk_cell BK139.out 4).trans rfl; have hfz16_0 := blk_frozen BK139.out 0; have hfz16_1 := blk_frozen BK139.out 1; have hfz16_2 := blk_frozen BK139.out 2; have hfz16_3 := blk_frozen BK139.out 3; have hfz16_4 := blk_frozen BK139.out 4) | ((with_reducible refine gate_dst (N := 29) rfl ?_); refine Kd.R_lit k100 _ 100 ?hg (N := 29) ?hd (xs := ([(⟨3, IntKind.u64.wrap (a0_0)⟩ : S100), (⟨5, IntKind.u64.wrap (a0_1)⟩ : S100), (⟨8, IntKind.u64.wrap (a0_2)⟩ : S100), (⟨8, IntKind.u64.wrap (a0_3)⟩ : S100), (⟨8, IntKind.u64.wrap (a0_4)⟩ : S100)] : List (S100))) (inner := [.int .i64 3, .int .u64 (IntKind.u64.wrap (a0_0)), .int .i64 5, .int .u64 (IntKind.u64.wrap (a0_1)), .int .i64 8, .int .u64 (IntKind.u64.wrap (a0_2)), .int .i64 8, .int .u64 (IntKind.u64.wrap (a0_3)), .int .i64 8, .int .u64 (IntKind.u64.wrap (a0_4))]) (ok := fun _ => True) (okp := fun _ => True) ?hr ?hp (fun _ hk => hk) trivial (Below.refl _ _) (Nat.le_refl _) (by simp) ?_; (case hd => rfl); (case hg => rfl); (case hr => first | (go_simp; done) | (go_simp; rfl)); (case hp => exact (Reps.c2 (show Kd.M k100 _ _ _ (⟨3, IntKind.u64.wrap (a0_0)⟩ : S100) [.int .i64 3, .int .u64 (IntKind.u64.wrap (a0_0))] from (k100_mkM _ _ _ (⟨3, IntKind.u64.wrap (a0_0)⟩ : S100) )) (Reps.c2 (show Kd.M k100 _ _ _ (⟨5, IntKind.u64.wrap (a0_1)⟩ : S100) [.int .i64 5, .int .u64 (IntKind.u64.wrap (a0_1))] from (k100_mkM _ _ _ (⟨5, IntKind.u64.wrap (a0_1)⟩ : S100) )) (Reps.c2 (show Kd.M k100 _ _ _ (⟨8, IntKind.u64.wrap (a0_2)⟩ : S100) [.int .i64 8, .int .u64 (IntKind.u64.wrap (a0_2))] from (k100_mkM _ _ _ (⟨8, IntKind.u64.wrap (a0_2)⟩ : S100) )) (Reps.c2 (show Kd.M k100 _ _ _ (⟨8, IntKind.u64.wrap (a0_3)⟩ : S100) [.int .i64 8, .int .u64 (IntKind.u64.wrap (a0_3))] from (k100_mkM _ _ _ (⟨8, IntKind.u64.wrap (a0_3)⟩ : S100) )) (Reps.c2 (show Kd.M k100 _ _ _ (⟨8, IntKind.u64.wrap (a0_4)⟩ : S100) [.int .i64 8, .int .u64 (IntKind.u64.wrap (a0_4))] from (k100_mkM _ _ _ (⟨8, IntKind.u64.wrap (a0_4)⟩ : S100) )) (Reps.none _ _))))))); intro v141 w17 ho18 hb hg_ hnew_; clear hg_ hnew_; (first | rw [← Ny140.out] at ho18 | (simp only [Int.reduceToNat] at ho18; rw [← Ny140.out] at ho18)); have n0_ := Aside0.mk (Kd.R_lower ho18 (below_size (by repeat (first | (with_reducible first | exact HB.out | apply below_alloc | apply pw_below_drewN | apply below_drew1 | refine below_set ?_ GE139.out) | exact HB.out)))); have n1_ := Aside0.mk (blk_below (g := gb139) (o := .cells #[.int .u8 a0_0, .int .u8 a0_1, .int .u8 a0_2, .int .u8 a0_3, .int .u8 a0_4] 84 (0, 0)) (by (with_reducible repeat (first | refine blk_drewN ?_ _ | refine blk_drew ?_ | refine blk_alloc ?_ _)); exact BK139.out) hb); have n2_ := Aside0.mk (below_step (by repeat (first | (with_reducible first | exact HB.out | apply below_alloc | apply pw_below_drewN | apply below_drew1 | refine below_set ?_ GE139.out) | exact HB.out)) hb); clear BK139; clear HB; have HO142 := n0_; have BK139 := n1_; have HB := n2_; clear n0_ n1_ n2_; clear hb ho18; obtain ⟨Ao19, co19, eo19⟩ := Kd.R_slice HO142.out; subst eo19) | ((with_reducible refine gate_callee (f := 55) rfl ?_); refine goesL_ (some 30) rfl rfl Try.func55 (by kernel_rfl) rfl #[.slice Ao19 y140.length co19] rfl (by (try simp only [List.map_toArray, List.map_cons, List.map_nil]); first | done | rfl | (simp only [List.length_drop, List.length_take]; rfl)) ?_; (with_reducible refine (field_Pack.calls _ _ y140 t143 t144 _ ?side1 ?side2 A3.out).mono ?_); (case side1 => repeat (first | exact (Kd.R_reads' HO142.out).2.2 | (with_reducible refine Kd.C_alloc ?_ _) | (with_reducible refine Kd.C_drewN ?_ _) | (with_reducible refine Kd.C_drew ?_))); (case side2 => exact (Kd.R_reads' HO142.out).2.1); rintro e w20 ⟨rfl, hb⟩; refine ⟨_, rfl, ?_⟩; have n0_ := Aside0.mk (Kd.R_below (by (with_reducible repeat (first | apply Kd.R_alloc | apply Kd.R_drewN | apply Kd.R_drew)); exact HO142.out) hb); have n1_ := Aside0.mk (blk_below (g := gb139) (o := .cells #[.int .u8 a0_0, .int .u8 a0_1, .int .u8 a0_2, .int .u8 a0_3, .int .u8 a0_4] 84 (0, 0)) (by (with_reducible repeat (first | refine blk_drewN ?_ _ | refine blk_drew ?_ | refine blk_alloc ?_ _)); exact BK139.out) hb); have n2_ := Aside0.mk (below_step (by repeat (first | (with_reducible first | exact HB.out | apply below_alloc | apply pw_below_drewN | apply below_drew1 | refine below_set ?_ GE139.out) | exact HB.out)) hb); clear HO142; clear BK139; clear HB; have HO142 := n0_; have BK139 := n1_; have HB := n2_; clear n0_ n1_ n2_; (try clear hb); (try clear hb2); (try clear hk); (try clear hi); have hcz21_0 : w20.cell? ⟨gb139, 0, none⟩ = some (.int .u8 a0_0) := (blk_cell BK139.out 0).trans rfl; have hcz21_1 : w20.cell? ⟨gb139, 1, none⟩ = some (.int .u8 a0_1) := (blk_cell BK139.out 1).trans rfl; have hcz21_2 : w20.cell? ⟨gb139, 2, none⟩ = some (.int .u8 a0_2) := (blk_cell BK139.out 2).trans rfl; have hcz21_3 : w20.cell? ⟨gb139, 3, none⟩ = some (.int .u8 a0_3) := (blk_cell BK139.out 3).trans rfl; have hcz21_4 : w20.cell? ⟨gb139, 4, none⟩ = some (.int .u8 a0_4) := (blk_cell BK139.out 4).trans rfl; have hfz21_0 := blk_frozen BK139.out 0; have hfz21_1 := blk_frozen BK139.out 1; have hfz21_2 := blk_frozen BK139.out 2; have hfz21_3 := blk_frozen BK139.out 3; have hfz21_4 := blk_frozen BK139.out 4))
      go_ret2
      exact ⟨by first | rfl | (simp [errW_none, errW_some] <;> rfl) | (simp [*, errW_none, errW_some] <;> rfl), by repeat (first | (with_reducible first | exact HB.out | apply below_alloc | apply pw_below_drewN | apply below_drew1 | refine below_set ?_ GE139.out) | exact HB.out)⟩
  · rw [if_neg c4] at H
    have c4b0 : (t144 == 0) = false := beq_eq_false_iff_ne.mpr c4
    have c4b1 : (t144 != 0) = true := bne_iff_ne.mpr c4
    simp only [Option.some.injEq, Prod.mk.injEq] at H
    obtain ⟨rfl, rfl⟩ := H
    go_enter Try.func56, Try.ntmps56
    go_wp2_with (first | ((with_reducible refine gate_dst (N := 2) rfl ?_); refine box_event ?hg (N := 2) ?hd (cs := #[.int .u8 a0_0, .int .u8 a0_1, .int .u8 a0_2, .int .u8 a0_3, .int .u8 a0_4]) (t := 84) ?hr ?_; (case hd => rfl); (case hg => rfl); (case hr => first | (go_simp; done) | (go_simp; rfl)); intro gb139 hg w22 hbox hb; have n0_ := Aside0.mk (below_step (by repeat (first | (with_reducible first | exact HB.out | apply below_alloc | apply pw_below_drewN | apply below_drew1) | exact HB.out)) hb); have n1_ := Aside0.mk (hbox); have n2_ := Aside0.mk ((by rw [hg]; exact (below_size (by repeat (first | (with_reducible first | exact HB.out | apply below_alloc | apply pw_below_drewN | apply below_drew1) | exact HB.out))) : w.heap.size ≤ gb139)); have n3_ := Aside0.mk ((by rw [hg]; exact (below_size (by repeat (first | (with_reducible first | exact HB.out | apply below_alloc | apply pw_below_drewN | apply below_drew1) | exact HB.out))) : w.heap.size ≤ gb139)); clear HB; have HB := n0_; have BK139 := n1_; have GW139 := n2_; have GE139 := n3_; clear n0_ n1_ n2_ n3_; clear hb hbox hg; have hcz23_0 : w22.cell? ⟨gb139, 0, none⟩ = some (.int .u8 a0_0) := (blk_cell BK139.out 0).trans rfl; have hcz23_1 : w22.cell? ⟨gb139, 1, none⟩ = some (.int .u8 a0_1) := (blk_cell BK139.out 1).trans rfl; have hcz23_2 : w22.cell? ⟨gb139, 2, none⟩ = some (.int .u8 a0_2) := (blk_cell BK139.out 2).trans rfl; have hcz23_3 : w22.cell? ⟨gb139, 3, none⟩ = some (.int .u8 a0_3) := (blk_cell BK139.out 3).trans rfl; have hcz23_4 : w22.cell? ⟨gb139, 4, none⟩ = some (.int .u8 a0_4) := (blk_cell BK139.out 4).trans rfl; have hfz23_0 := blk_frozen BK139.out 0; have hfz23_1 := blk_frozen BK139.out 1; have hfz23_2 := blk_frozen BK139.out 2; have hfz23_3 := blk_frozen BK139.out 3; have hfz23_4 := blk_frozen BK139.out 4) | ((with_reducible refine gate_dst (N := 29) rfl ?_); refine Kd.R_lit k100 _ 100 ?hg (N := 29) ?hd (xs := ([(⟨3, IntKind.u64.wrap (a0_0)⟩ : S100), (⟨5, IntKind.u64.wrap (a0_1)⟩ : S100), (⟨8, IntKind.u64.wrap (a0_2)⟩ : S100), (⟨8, IntKind.u64.wrap (a0_3)⟩ : S100), (⟨8, IntKind.u64.wrap (a0_4)⟩ : S100)] : List (S100))) (inner := [.int .i64 3, .int .u64 (IntKind.u64.wrap (a0_0)), .int .i64 5, .int .u64 (IntKind.u64.wrap (a0_1)), .int .i64 8, .int .u64 (IntKind.u64.wrap (a0_2)), .int .i64 8, .int .u64 (IntKind.u64.wrap (a0_3)), .int .i64 8, .int .u64 (IntKind.u64.wrap (a0_4))]) (ok := fun _ => True) (okp := fun _ => True) ?hr ?hp (fun _ hk => hk) trivial (Below.refl _ _) (Nat.le_refl _) (by simp) ?_; (case hd => rfl); (case hg => rfl); (case hr => first | (go_simp; done) | (go_simp; rfl)); (case hp => exact (Reps.c2 (show Kd.M k100 _ _ _ (⟨3, IntKind.u64.wrap (a0_0)⟩ : S100) [.int .i64 3, .int .u64 (IntKind.u64.wrap (a0_0))] from (k100_mkM _ _ _ (⟨3, IntKind.u64.wrap (a0_0)⟩ : S100) )) (Reps.c2 (show Kd.M k100 _ _ _ (⟨5, IntKind.u64.wrap (a0_1)⟩ : S100) [.int .i64 5, .int .u64 (IntKind.u64.wrap (a0_1))] from (k100_mkM _ _ _ (⟨5, IntKind.u64.wrap (a0_1)⟩ : S100) )) (Reps.c2 (show Kd.M k100 _ _ _ (⟨8, IntKind.u64.wrap (a0_2)⟩ : S100) [.int .i64 8, .int .u64 (IntKind.u64.wrap (a0_2))] from (k100_mkM _ _ _ (⟨8, IntKind.u64.wrap (a0_2)⟩ : S100) )) (Reps.c2 (show Kd.M k100 _ _ _ (⟨8, IntKind.u64.wrap (a0_3)⟩ : S100) [.int .i64 8, .int .u64 (IntKind.u64.wrap (a0_3))] from (k100_mkM _ _ _ (⟨8, IntKind.u64.wrap (a0_3)⟩ : S100) )) (Reps.c2 (show Kd.M k100 _ _ _ (⟨8, IntKind.u64.wrap (a0_4)⟩ : S100) [.int .i64 8, .int .u64 (IntKind.u64.wrap (a0_4))] from (k100_mkM _ _ _ (⟨8, IntKind.u64.wrap (a0_4)⟩ : S100) )) (Reps.none _ _))))))); intro v141 w24 ho25 hb hg_ hnew_; clear hg_ hnew_; (first | rw [← Ny140.out] at ho25 | (simp only [Int.reduceToNat] at ho25; rw [← Ny140.out] at ho25)); have n0_ := Aside0.mk (Kd.R_lower ho25 (below_size (by repeat (first | (with_reducible first | exact HB.out | apply below_alloc | apply pw_below_drewN | apply below_drew1 | refine below_set ?_ GE139.out) | exact HB.out)))); have n1_ := Aside0.mk (blk_below (g := gb139) (o := .cells #[.int .u8 a0_0, .int .u8 a0_1, .int .u8 a0_2, .int .u8 a0_3, .int .u8 a0_4] 84 (0, 0)) (by (with_reducible repeat (first | refine blk_drewN ?_ _ | refine blk_drew ?_ | refine blk_alloc ?_ _)); exact BK139.out) hb); have n2_ := Aside0.mk (below_step (by repeat (first | (with_reducible first | exact HB.out | apply below_alloc | apply pw_below_drewN | apply below_drew1 | refine below_set ?_ GE139.out) | exact HB.out)) hb); clear BK139; clear HB; have HO142 := n0_; have BK139 := n1_; have HB := n2_; clear n0_ n1_ n2_; clear hb ho25; obtain ⟨Ao26, co26, eo26⟩ := Kd.R_slice HO142.out; subst eo26) | ((with_reducible refine gate_callee (f := 55) rfl ?_); refine goesL_ (some 30) rfl rfl Try.func55 (by kernel_rfl) rfl #[.slice Ao26 y140.length co26] rfl (by (try simp only [List.map_toArray, List.map_cons, List.map_nil]); first | done | rfl | (simp only [List.length_drop, List.length_take]; rfl)) ?_; (with_reducible refine (field_Pack.calls _ _ y140 t143 t144 _ ?side1 ?side2 A3.out).mono ?_); (case side1 => repeat (first | exact (Kd.R_reads' HO142.out).2.2 | (with_reducible refine Kd.C_alloc ?_ _) | (with_reducible refine Kd.C_drewN ?_ _) | (with_reducible refine Kd.C_drew ?_))); (case side2 => exact (Kd.R_reads' HO142.out).2.1); rintro e w27 ⟨rfl, hb⟩; refine ⟨_, rfl, ?_⟩; have n0_ := Aside0.mk (Kd.R_below (by (with_reducible repeat (first | apply Kd.R_alloc | apply Kd.R_drewN | apply Kd.R_drew)); exact HO142.out) hb); have n1_ := Aside0.mk (blk_below (g := gb139) (o := .cells #[.int .u8 a0_0, .int .u8 a0_1, .int .u8 a0_2, .int .u8 a0_3, .int .u8 a0_4] 84 (0, 0)) (by (with_reducible repeat (first | refine blk_drewN ?_ _ | refine blk_drew ?_ | refine blk_alloc ?_ _)); exact BK139.out) hb); have n2_ := Aside0.mk (below_step (by repeat (first | (with_reducible first | exact HB.out | apply below_alloc | apply pw_below_drewN | apply below_drew1 | refine below_set ?_ GE139.out) | exact HB.out)) hb); clear HO142; clear BK139; clear HB; have HO142 := n0_; have BK139 := n1_; have HB := n2_; clear n0_ n1_ n2_; (try clear hb); (try clear hb2); (try clear hk); (try clear hi)))
    go_ret2
    exact ⟨by first | rfl | (simp [errW_none, errW_some] <;> rfl) | (simp [*, errW_none, errW_some] <;> rfl), by repeat (first | (with_reducible first | exact HB.out | apply below_alloc | apply pw_below_drewN | apply below_drew1 | refine below_set ?_ GE139.out) | exact HB.out)⟩

/-! ### ccm_Close: function 38 -/
def ccm_Close.j0 : Nat → Int → ByteArray → Int → Bool → Int → Int → Int → ByteArray → Option (ByteArray × Int)
  | 0, _, _, _, _, _, _, _, _ => none
  | k + 1, x1, x7, x9, x146000, x146001, x146002, x146003, x146004 => if x7.size + x146004.size ≤ 9223372036854775807 then ((strings_Repeat.f (⟨#[0]⟩ : ByteArray) 16).bind fun t152 => (if x7.size + x146004.size + t152.size ≤ 9223372036854775807 then ((oam_Close.f x1 0 1 x9 70 ((x7 ++ x146004) ++ t152)).bind fun bt153 => (some (bt153.1, bt153.2))) else (none))) else (none)
def ccm_Close.f (k : Nat) (a0_0 : Bool) (a0_1 : Int) (a0_2 : Int) (a0_3 : Int) (a0_4 : ByteArray) (a1 : Int) : Option (ByteArray × Int) := if a1 > 7 then (some ((⟨#[]⟩ : ByteArray), 4)) else ((ccm_Msg_wrong.f k a0_0 a0_1 a0_2 a0_3 a0_4).bind fun t146 => (if t146 = 0 then ((field_Pack.f (([(⟨32, IntKind.u64.wrap (a0_2)⟩ : S100), (⟨16, IntKind.u64.wrap (a0_3)⟩ : S100)] : List (S100)))).bind fun bt150 => (if bt150.2 = 0 then (if a0_0 = true then (ccm_Close.j0 k a1 bt150.1 (Go.bits .or .u8 a0_1 128) a0_0 a0_1 a0_2 a0_3 a0_4) else (ccm_Close.j0 k a1 bt150.1 a0_1 a0_0 a0_1 a0_2 a0_3 a0_4)) else (some ((⟨#[]⟩ : ByteArray), bt150.2)))) else (some ((⟨#[]⟩ : ByteArray), t146))))
theorem ccm_Close.mono_l : ∀ k, (∀ y0 y1 y2 y3 y4 y5 y6 y7, LeO (ccm_Close.j0 k y0 y1 y2 y3 y4 y5 y6 y7) (ccm_Close.j0 (k + 1) y0 y1 y2 y3 y4 y5 y6 y7))
  | 0 => fun _ _ _ _ _ _ _ _ r h => by simp [ccm_Close.j0] at h
  | k + 1 => by
    have ih0 := ccm_Close.mono_l k
    · intro y0 y1 y2 y3 y4 y5 y6 y7
      unfold ccm_Close.j0
      repeat' first
      | (with_reducible exact ih0 _ _ _ _ _ _ _ _)
      | (with_reducible exact ccm_Msg_wrong.mono _ _ _ _ _ _)
      | (with_reducible exact LeO.refl _)
      | (with_reducible exact LeO.none _)
      | (with_reducible refine LeO.ite ?_ ?_)
      | (with_reducible refine LeO.bind ?_ (fun _ => ?_))
      | exact ih0 _ _ _ _ _ _ _ _
      | exact ccm_Msg_wrong.mono _ _ _ _ _ _
      | exact LeO.none _
      | refine LeO.ite ?_ ?_
      | refine LeO.bind ?_ (fun _ => ?_)
theorem ccm_Close.mono : ∀ a0 a1 a2 a3 a4 a5 k, LeO (ccm_Close.f k a0 a1 a2 a3 a4 a5) (ccm_Close.f (k + 1) a0 a1 a2 a3 a4 a5) := by
  intro a0 a1 a2 a3 a4 a5 k
  have ih0 := ccm_Close.mono_l k
  unfold ccm_Close.f
  repeat' first
      | (with_reducible exact ih0 _ _ _ _ _ _ _ _)
      | (with_reducible exact ccm_Msg_wrong.mono _ _ _ _ _ _)
      | (with_reducible exact LeO.refl _)
      | (with_reducible exact LeO.none _)
      | (with_reducible refine LeO.ite ?_ ?_)
      | (with_reducible refine LeO.bind ?_ (fun _ => ?_))
      | exact ih0 _ _ _ _ _ _ _ _
      | exact ccm_Msg_wrong.mono _ _ _ _ _ _
      | exact LeO.none _
      | refine LeO.ite ?_ ?_
      | refine LeO.bind ?_ (fun _ => ?_)
def ccm_Close.T12 : Bool × List (List Nat × List Nat) := (true, [([], []), ([], []), ([0, 1], [0, 1]), ([], []), ([], []), ([4], [4]), ([3, 5], [3, 5]), ([], []), ([6, 7], [6, 7]), ([2, 8, 7], [2, 8]), ([9], [9]), ([9], [9]), ([10, 9, 0, 1, 2, 3, 4, 5, 6, 7, 8, 9, 10, 11], [10]), ([11, 12, 0, 1, 2, 3, 4, 5, 6, 7, 8, 9, 10, 11, 12], [11])])
def ccm_Close.B12 : List Nat := [0, 0, 3, 0, 0, 16, 56, 0, 248, 511, 1023, 1023, 4095, 8191]
theorem ccm_Close.tab12 : rtab .any (opsOf Try.f38 12) = ccm_Close.T12 := by kernel_rfl
theorem ccm_Close.bits12 : waitsOk ccm_Close.T12.2 ccm_Close.B12 = true := by kernel_rfl
set_option maxHeartbeats 8000000 in
set_option maxRecDepth 100000 in
theorem ccm_Close.calls (k : Nat) (a0_0 : Bool) (a0_1 : Int) (a0_2 : Int) (a0_3 : Int) (a0_4 : ByteArray) (a1 : Int) (r1 : ByteArray) (r2 : Int) (w : World) (h : ccm_Close.f k a0_0 a0_1 a0_2 a0_3 a0_4 a1 = some (r1, r2)) :
    Calls Try.prog 38 #[.agg #[.bool a0_0, .int .u8 a0_1, .int .u32 a0_2, .int .u16 a0_3, .string a0_4], .int .u8 a1] w fun e w' => e = .returned (.tuple #[.string r1, .int .i64 r2]) ∧ Below w.heap.size w w' := by
  have hu62 := Try.underlying62
  have hu100 := Try.underlying100
  have hu84 := Try.underlying84
  have HB := Aside0.mk (Below.refl w.heap.size w)
  have H : (if a1 > 7 then (some ((⟨#[]⟩ : ByteArray), 4)) else ((ccm_Msg_wrong.f k a0_0 a0_1 a0_2 a0_3 a0_4).bind fun t146 => (if t146 = 0 then ((field_Pack.f (([(⟨32, IntKind.u64.wrap (a0_2)⟩ : S100), (⟨16, IntKind.u64.wrap (a0_3)⟩ : S100)] : List (S100)))).bind fun bt150 => (if bt150.2 = 0 then (if a0_0 = true then (ccm_Close.j0 k a1 bt150.1 (Go.bits .or .u8 a0_1 128) a0_0 a0_1 a0_2 a0_3 a0_4) else (ccm_Close.j0 k a1 bt150.1 a0_1 a0_0 a0_1 a0_2 a0_3 a0_4)) else (some ((⟨#[]⟩ : ByteArray), bt150.2)))) else (some ((⟨#[]⟩ : ByteArray), t146))))) = some (r1, r2) := h
  clear h
  by_cases c3 : a1 > 7
  · rw [if_pos c3] at H
    have c3b0 : decide (7 < a1) = true := decide_eq_true c3
    clear c3
    simp only [Option.some.injEq, Prod.mk.injEq] at H
    obtain ⟨rfl, rfl⟩ := H
    go_enter Try.func38, Try.ntmps38
    go_wp2_with (first | ((with_reducible refine gate_dst (N := 2) rfl ?_); refine box_event ?hg (N := 2) ?hd (cs := #[.bool a0_0, .int .u8 a0_1, .int .u32 a0_2, .int .u16 a0_3, .string a0_4]) (t := 62) ?hr ?_; (case hd => rfl); (case hg => rfl); (case hr => first | (go_simp; done) | (go_simp; rfl)); intro gb145 hg w4 hbox hb; have n0_ := Aside0.mk (below_step (by repeat (first | (with_reducible first | exact HB.out | apply below_alloc | apply pw_below_drewN | apply below_drew1) | exact HB.out)) hb); have n1_ := Aside0.mk (hbox); have n2_ := Aside0.mk ((by rw [hg]; exact (below_size (by repeat (first | (with_reducible first | exact HB.out | apply below_alloc | apply pw_below_drewN | apply below_drew1) | exact HB.out))) : w.heap.size ≤ gb145)); have n3_ := Aside0.mk ((by rw [hg]; exact (below_size (by repeat (first | (with_reducible first | exact HB.out | apply below_alloc | apply pw_below_drewN | apply below_drew1) | exact HB.out))) : w.heap.size ≤ gb145)); clear HB; have HB := n0_; have BK145 := n1_; have GW145 := n2_; have GE145 := n3_; clear n0_ n1_ n2_ n3_; clear hb hbox hg))
    go_ret2
    exact ⟨by first | rfl | (simp [errW_none, errW_some] <;> rfl) | (simp [*, errW_none, errW_some] <;> rfl), by repeat (first | (with_reducible first | exact HB.out | apply below_alloc | apply pw_below_drewN | apply below_drew1 | refine below_set ?_ GE145.out) | exact HB.out)⟩
  · rw [if_neg c3] at H
    have c3b0 : decide (7 < a1) = false := decide_eq_false c3
    clear c3
    replace H := Option.bind_eq_some_iff.mp H
    obtain ⟨t146, A50, H⟩ := H
    replace H : (if t146 = 0 then ((field_Pack.f (([(⟨32, IntKind.u64.wrap (a0_2)⟩ : S100), (⟨16, IntKind.u64.wrap (a0_3)⟩ : S100)] : List (S100)))).bind fun bt150 => (if bt150.2 = 0 then (if a0_0 = true then (ccm_Close.j0 k a1 bt150.1 (Go.bits .or .u8 a0_1 128) a0_0 a0_1 a0_2 a0_3 a0_4) else (ccm_Close.j0 k a1 bt150.1 a0_1 a0_0 a0_1 a0_2 a0_3 a0_4)) else (some ((⟨#[]⟩ : ByteArray), bt150.2)))) else (some ((⟨#[]⟩ : ByteArray), t146))) = some (r1, r2) := H
    have A5 := Aside0.mk A50
    clear A50
    by_cases c6 : t146 = 0
    · rw [if_pos c6] at H
      have c6b0 : (t146 == 0) = true := beq_iff_eq.mpr c6
      have c6b1 : (t146 != 0) = false := bne_eq_false_iff_eq.mpr c6
      clear c6
      obtain ⟨y147, hy147⟩ : ∃ y_ : List (S100), y_ = (([(⟨32, IntKind.u64.wrap (a0_2)⟩ : S100), (⟨16, IntKind.u64.wrap (a0_3)⟩ : S100)] : List (S100))) := ⟨_, rfl⟩
      replace H : ((field_Pack.f y147).bind fun bt150 => (if bt150.2 = 0 then (if a0_0 = true then (ccm_Close.j0 k a1 bt150.1 (Go.bits .or .u8 a0_1 128) a0_0 a0_1 a0_2 a0_3 a0_4) else (ccm_Close.j0 k a1 bt150.1 a0_1 a0_0 a0_1 a0_2 a0_3 a0_4)) else (some ((⟨#[]⟩ : ByteArray), bt150.2)))) = some (r1, r2) := by first | (rw [hy147]; with_reducible exact H) | (have H2_ := (Option.bind_some _ _).symm.trans H; rw [hy147]; with_reducible exact H2_) | (have H2_ := (Option.bind_some _ _).symm.trans H; with_reducible exact H2_) | with_reducible exact H | (rw [hy147]; exact H) | exact H
      have Ny147 := Aside0.mk hy147
      clear hy147
      replace H := Option.bind_eq_some_iff.mp H
      obtain ⟨⟨t150, t151⟩, A70, H⟩ := H
      replace H : (if t151 = 0 then (if a0_0 = true then (ccm_Close.j0 k a1 t150 (Go.bits .or .u8 a0_1 128) a0_0 a0_1 a0_2 a0_3 a0_4) else (ccm_Close.j0 k a1 t150 a0_1 a0_0 a0_1 a0_2 a0_3 a0_4)) else (some ((⟨#[]⟩ : ByteArray), t151))) = some (r1, r2) := H
      have A7 := Aside0.mk A70
      clear A70
      by_cases c8 : t151 = 0
      · rw [if_pos c8] at H
        have c8b0 : (t151 == 0) = true := beq_iff_eq.mpr c8
        have c8b1 : (t151 != 0) = false := bne_eq_false_iff_eq.mpr c8
        clear c8
        have HC9 := Aside0.mk H
        clear H
        go_enter Try.func38, Try.ntmps38
        go_upto_if 36 with (first | ((with_reducible refine gate_dst (N := 2) rfl ?_); refine box_event ?hg (N := 2) ?hd (cs := #[.bool a0_0, .int .u8 a0_1, .int .u32 a0_2, .int .u16 a0_3, .string a0_4]) (t := 62) ?hr ?_; (case hd => rfl); (case hg => rfl); (case hr => first | (go_simp; done) | (go_simp; rfl)); intro gb145 hg w10 hbox hb; have n0_ := Aside0.mk (below_step (by repeat (first | (with_reducible first | exact HB.out | apply below_alloc | apply pw_below_drewN | apply below_drew1) | exact HB.out)) hb); have n1_ := Aside0.mk (hbox); have n2_ := Aside0.mk ((by rw [hg]; exact (below_size (by repeat (first | (with_reducible first | exact HB.out | apply below_alloc | apply pw_below_drewN | apply below_drew1) | exact HB.out))) : w.heap.size ≤ gb145)); have n3_ := Aside0.mk ((by rw [hg]; exact (below_size (by repeat (first | (with_reducible first | exact HB.out | apply below_alloc | apply pw_below_drewN | apply below_drew1) | exact HB.out))) : w.heap.size ≤ gb145)); clear HB; have HB := n0_; have BK145 := n1_; have GW145 := n2_; have GE145 := n3_; clear n0_ n1_ n2_ n3_; clear hb hbox hg; have hcz11_0 : w10.cell? ⟨gb145, 0, none⟩ = some (.bool a0_0) := (blk_cell BK145.out 0).trans rfl; have hcz11_1 : w10.cell? ⟨gb145, 1, none⟩ = some (.int .u8 a0_1) := (blk_cell BK145.out 1).trans rfl; have hcz11_2 : w10.cell? ⟨gb145, 2, none⟩ = some (.int .u32 a0_2) := (blk_cell BK145.out 2).trans rfl; have hcz11_3 : w10.cell? ⟨gb145, 3, none⟩ = some (.int .u16 a0_3) := (blk_cell BK145.out 3).trans rfl; have hcz11_4 : w10.cell? ⟨gb145, 4, none⟩ = some (.string a0_4) := (blk_cell BK145.out 4).trans rfl; have hfz11_0 := blk_frozen BK145.out 0; have hfz11_1 := blk_frozen BK145.out 1; have hfz11_2 := blk_frozen BK145.out 2; have hfz11_3 := blk_frozen BK145.out 3; have hfz11_4 := blk_frozen BK145.out 4) | ((with_reducible refine gate_callee (f := 47) rfl ?_); refine goesL_ (some 13) rfl rfl Try.func47 (by kernel_rfl) rfl #[.agg #[.bool a0_0, .int .u8 a0_1, .int .u32 a0_2, .int .u16 a0_3, .string a0_4]] rfl (by (try simp only [List.map_toArray, List.map_cons, List.map_nil]); first | done | rfl | (simp only [List.length_drop, List.length_take]; rfl)) ?_; (with_reducible refine (ccm_Msg_wrong.calls k a0_0 a0_1 a0_2 a0_3 a0_4 t146 _ A5.out).mono ?_); rintro e w12 ⟨rfl, hb⟩; refine ⟨_, rfl, ?_⟩; have n0_ := Aside0.mk (blk_below (g := gb145) (o := .cells #[.bool a0_0, .int .u8 a0_1, .int .u32 a0_2, .int .u16 a0_3, .string a0_4] 62 (0, 0)) (by (with_reducible repeat (first | refine blk_drewN ?_ _ | refine blk_drew ?_ | refine blk_alloc ?_ _)); exact BK145.out) hb); have n1_ := Aside0.mk (below_step (by repeat (first | (with_reducible first | exact HB.out | apply below_alloc | apply pw_below_drewN | apply below_drew1 | refine below_set ?_ GE145.out) | exact HB.out)) hb); clear BK145; clear HB; have BK145 := n0_; have HB := n1_; clear n0_ n1_; (try clear hb); (try clear hb2); (try clear hk); (try clear hi); have hcz13_0 : w12.cell? ⟨gb145, 0, none⟩ = some (.bool a0_0) := (blk_cell BK145.out 0).trans rfl; have hcz13_1 : w12.cell? ⟨gb145, 1, none⟩ = some (.int .u8 a0_1) := (blk_cell BK145.out 1).trans rfl; have hcz13_2 : w12.cell? ⟨gb145, 2, none⟩ = some (.int .u32 a0_2) := (blk_cell BK145.out 2).trans rfl; have hcz13_3 : w12.cell? ⟨gb145, 3, none⟩ = some (.int .u16 a0_3) := (blk_cell BK145.out 3).trans rfl; have hcz13_4 : w12.cell? ⟨gb145, 4, none⟩ = some (.string a0_4) := (blk_cell BK145.out 4).trans rfl; have hfz13_0 := blk_frozen BK145.out 0; have hfz13_1 := blk_frozen BK145.out 1; have hfz13_2 := blk_frozen BK145.out 2; have hfz13_3 := blk_frozen BK145.out 3; have hfz13_4 := blk_frozen BK145.out 4) | ((with_reducible refine gate_dst (N := 26) rfl ?_); refine Kd.R_lit k100 _ 100 ?hg (N := 26) ?hd (xs := ([(⟨32, IntKind.u64.wrap (a0_2)⟩ : S100), (⟨16, IntKind.u64.wrap (a0_3)⟩ : S100)] : List (S100))) (inner := [.int .i64 32, .int .u64 (IntKind.u64.wrap (a0_2)), .int .i64 16, .int .u64 (IntKind.u64.wrap (a0_3))]) (ok := fun _ => True) (okp := fun _ => True) ?hr ?hp (fun _ hk => hk) trivial (Below.refl _ _) (Nat.le_refl _) (by simp) ?_; (case hd => rfl); (case hg => rfl); (case hr => first | (go_simp; done) | (go_simp; rfl)); (case hp => exact (Reps.c2 (show Kd.M k100 _ _ _ (⟨32, IntKind.u64.wrap (a0_2)⟩ : S100) [.int .i64 32, .int .u64 (IntKind.u64.wrap (a0_2))] from (k100_mkM _ _ _ (⟨32, IntKind.u64.wrap (a0_2)⟩ : S100) )) (Reps.c2 (show Kd.M k100 _ _ _ (⟨16, IntKind.u64.wrap (a0_3)⟩ : S100) [.int .i64 16, .int .u64 (IntKind.u64.wrap (a0_3))] from (k100_mkM _ _ _ (⟨16, IntKind.u64.wrap (a0_3)⟩ : S100) )) (Reps.none _ _)))); intro v148 w14 ho15 hb hg_ hnew_; clear hg_ hnew_; (first | rw [← Ny147.out] at ho15 | (simp only [Int.reduceToNat] at ho15; rw [← Ny147.out] at ho15)); have n0_ := Aside0.mk (Kd.R_lower ho15 (below_size (by repeat (first | (with_reducible first | exact HB.out | apply below_alloc | apply pw_below_drewN | apply below_drew1 | refine below_set ?_ GE145.out) | exact HB.out)))); have n1_ := Aside0.mk (blk_below (g := gb145) (o := .cells #[.bool a0_0, .int .u8 a0_1, .int .u32 a0_2, .int .u16 a0_3, .string a0_4] 62 (0, 0)) (by (with_reducible repeat (first | refine blk_drewN ?_ _ | refine blk_drew ?_ | refine blk_alloc ?_ _)); exact BK145.out) hb); have n2_ := Aside0.mk (below_step (by repeat (first | (with_reducible first | exact HB.out | apply below_alloc | apply pw_below_drewN | apply below_drew1 | refine below_set ?_ GE145.out) | exact HB.out)) hb); clear BK145; clear HB; have HO149 := n0_; have BK145 := n1_; have HB := n2_; clear n0_ n1_ n2_; clear hb ho15; obtain ⟨Ao16, co16, eo16⟩ := Kd.R_slice HO149.out; subst eo16) | ((with_reducible refine gate_callee (f := 55) rfl ?_); refine goesL_ (some 27) rfl rfl Try.func55 (by kernel_rfl) rfl #[.slice Ao16 y147.length co16] rfl (by (try simp only [List.map_toArray, List.map_cons, List.map_nil]); first | done | rfl | (simp only [List.length_drop, List.length_take]; rfl)) ?_; (with_reducible refine (field_Pack.calls _ _ y147 t150 t151 _ ?side1 ?side2 A7.out).mono ?_); (case side1 => repeat (first | exact (Kd.R_reads' HO149.out).2.2 | (with_reducible refine Kd.C_alloc ?_ _) | (with_reducible refine Kd.C_drewN ?_ _) | (with_reducible refine Kd.C_drew ?_))); (case side2 => exact (Kd.R_reads' HO149.out).2.1); rintro e w17 ⟨rfl, hb⟩; refine ⟨_, rfl, ?_⟩; have n0_ := Aside0.mk (Kd.R_below (by (with_reducible repeat (first | apply Kd.R_alloc | apply Kd.R_drewN | apply Kd.R_drew)); exact HO149.out) hb); have n1_ := Aside0.mk (blk_below (g := gb145) (o := .cells #[.bool a0_0, .int .u8 a0_1, .int .u32 a0_2, .int .u16 a0_3, .string a0_4] 62 (0, 0)) (by (with_reducible repeat (first | refine blk_drewN ?_ _ | refine blk_drew ?_ | refine blk_alloc ?_ _)); exact BK145.out) hb); have n2_ := Aside0.mk (below_step (by repeat (first | (with_reducible first | exact HB.out | apply below_alloc | apply pw_below_drewN | apply below_drew1 | refine below_set ?_ GE145.out) | exact HB.out)) hb); clear HO149; clear BK145; clear HB; have HO149 := n0_; have BK145 := n1_; have HB := n2_; clear n0_ n1_ n2_; (try clear hb); (try clear hb2); (try clear hk); (try clear hi); have hcz18_0 : w17.cell? ⟨gb145, 0, none⟩ = some (.bool a0_0) := (blk_cell BK145.out 0).trans rfl; have hcz18_1 : w17.cell? ⟨gb145, 1, none⟩ = some (.int .u8 a0_1) := (blk_cell BK145.out 1).trans rfl; have hcz18_2 : w17.cell? ⟨gb145, 2, none⟩ = some (.int .u32 a0_2) := (blk_cell BK145.out 2).trans rfl; have hcz18_3 : w17.cell? ⟨gb145, 3, none⟩ = some (.int .u16 a0_3) := (blk_cell BK145.out 3).trans rfl; have hcz18_4 : w17.cell? ⟨gb145, 4, none⟩ = some (.string a0_4) := (blk_cell BK145.out 4).trans rfl; have hfz18_0 := blk_frozen BK145.out 0; have hfz18_1 := blk_frozen BK145.out 1; have hfz18_2 := blk_frozen BK145.out 2; have hfz18_3 := blk_frozen BK145.out 3; have hfz18_4 := blk_frozen BK145.out 4))
        (try simp only [Act.put, List.setIfInBounds_toArray, List.set_cons_zero, List.set_cons_succ])
        go_cut [9] (fun v9 wc => ∃ (kq : Nat) (x9_8 : Int), v9 = .int .u8 x9_8 ∧ Aside0 (ccm_Close.j0 kq a1 t150 x9_8 a0_0 a0_1 a0_2 a0_3 a0_4 = some (r1, r2)) ∧ Aside0 (kq ≤ k) ∧ Aside0 (wc.heap[gb145]? = some (.cells #[.bool a0_0, .int .u8 a0_1, .int .u32 a0_2, .int .u16 a0_3, .string a0_4] 62 (0, 0))) ∧ Aside0 (Below w.heap.size w wc))
        case first =>
          have H := HC9.out
          clear HC9
          by_cases c19 : a0_0 = true
          · subst c19
            have H1 : (ccm_Close.j0 k a1 t150 (Go.bits .or .u8 a0_1 128) true a0_1 a0_2 a0_3 a0_4) = some (r1, r2) := by rw [if_pos rfl] at H; exact H
            clear H
            have H := H1
            clear H1
            have H' := Aside0.mk H
            clear H
            go_wp2
            go_meet
            case rel => exact ⟨_, (Go.bits .or .u8 a0_1 128), (by first | rfl | (simp; done) | (simp [*]; done)), H', ⟨by first | omega | exact Nat.le_refl _⟩, ⟨by (with_reducible repeat (first | refine blk_drewN ?_ _ | refine blk_drew ?_ | refine blk_alloc ?_ _)); exact BK145.out⟩, ⟨by repeat (first | (with_reducible first | exact HB.out | apply below_alloc | apply pw_below_drewN | apply below_drew1 | refine below_set ?_ GE145.out) | exact HB.out)⟩⟩
          · replace c19 := Bool.eq_false_iff.mpr c19
            subst c19
            have H1 : (ccm_Close.j0 k a1 t150 a0_1 false a0_1 a0_2 a0_3 a0_4) = some (r1, r2) := by rw [if_neg (show ¬ (false = true) by decide)] at H; exact H
            clear H
            have H := H1
            clear H1
            have H' := Aside0.mk H
            clear H
            go_wp2
            go_meet
            case rel => exact ⟨_, (a0_1), (by first | rfl | (simp; done) | (simp [*]; done)), H', ⟨by first | omega | exact Nat.le_refl _⟩, ⟨by (with_reducible repeat (first | refine blk_drewN ?_ _ | refine blk_drew ?_ | refine blk_alloc ?_ _)); exact BK145.out⟩, ⟨by repeat (first | (with_reducible first | exact HB.out | apply below_alloc | apply pw_below_drewN | apply below_drew1 | refine below_set ?_ GE145.out) | exact HB.out)⟩⟩
        case rest =>
          clear HC9
          try clear c1
          try clear c2
          try clear p2
          try clear c3
          try clear c3b0
          try clear c4
          try clear c5
          try clear c6
          try clear c6b0
          try clear c6b1
          try clear c8
          try clear c8b0
          try clear c8b1
          try clear c19
          try clear hcz11_0
          try clear hcz11_1
          try clear hcz11_2
          try clear hcz11_3
          try clear hcz11_4
          try clear hcz13_0
          try clear hcz13_1
          try clear hcz13_2
          try clear hcz13_3
          try clear hcz13_4
          try clear hcz18_0
          try clear hcz18_1
          try clear hcz18_2
          try clear hcz18_3
          try clear hcz18_4
          try clear hfz11_0
          try clear hfz11_1
          try clear hfz11_2
          try clear hfz11_3
          try clear hfz11_4
          try clear hfz13_0
          try clear hfz13_1
          try clear hfz13_2
          try clear hfz13_3
          try clear hfz13_4
          try clear hfz18_0
          try clear hfz18_1
          try clear hfz18_2
          try clear hfz18_3
          try clear hfz18_4
          obtain ⟨kq, x9_8, rfl, HA, HJ8, BK145, HB⟩ := hcut
          cases kq with
          | zero => exact absurd HA.out (by simp [ccm_Close.j0])
          | succ kj8 =>
            have H := HA.out
            clear HA
            simp only [ccm_Close.j0] at H
            by_cases c20 : t150.size + a0_4.size ≤ 9223372036854775807
            · rw [if_pos c20] at H
              have c20b0 := eq_true c20
              have c20b1 : decide (t150.size + a0_4.size ≤ 9223372036854775807) = true := decide_eq_true c20
              try have c20b2 : (9223372036854775807 < t150.size + a0_4.size) = False := eq_false (Nat.not_lt.2 c20)
              replace H := Option.bind_eq_some_iff.mp H
              obtain ⟨t152, A210, H⟩ := H
              replace H : (if t150.size + a0_4.size + t152.size ≤ 9223372036854775807 then ((oam_Close.f a1 0 1 x9_8 70 ((t150 ++ a0_4) ++ t152)).bind fun bt153 => (some (bt153.1, bt153.2))) else (none)) = some (r1, r2) := H
              have A21 := Aside0.mk A210
              clear A210
              by_cases c22 : t150.size + a0_4.size + t152.size ≤ 9223372036854775807
              · rw [if_pos c22] at H
                have c22b0 := eq_true c22
                have c22b1 : decide (t150.size + a0_4.size + t152.size ≤ 9223372036854775807) = true := decide_eq_true c22
                try have c22b2 : (9223372036854775807 < t150.size + a0_4.size + t152.size) = False := eq_false (Nat.not_lt.2 c22)
                replace H := Option.bind_eq_some_iff.mp H
                obtain ⟨⟨t153, t154⟩, A230, H⟩ := H
                replace H : (some (t153, t154)) = some (r1, r2) := H
                have A23 := Aside0.mk A230
                clear A230
                simp only [Option.some.injEq, Prod.mk.injEq] at H
                obtain ⟨rfl, rfl⟩ := H
                try go_wp2
                have n0_ := Aside0.mk (blk_drew BK145.out)
                have n1_ := Aside0.mk (below_drew1 HB.out)
                clear BK145
                clear HB
                have BK145 := n0_
                have HB := n1_
                clear n0_ n1_
                refine start_ (n := 14) (S := fun w' => w'.cell? ⟨gb145, 0, none⟩ = some (.bool a0_0) ∧ w'.cell? ⟨gb145, 1, none⟩ = some (.int .u8 a0_1) ∧ w'.cell? ⟨gb145, 2, none⟩ = some (.int .u32 a0_2) ∧ w'.cell? ⟨gb145, 3, none⟩ = some (.int .u16 a0_3) ∧ w'.cell? ⟨gb145, 4, none⟩ = some (.string a0_4)) (ds := []) #[false, false, false, false, false, false, false, false, false, false, false, false, false, false] (by kernel_rfl) rfl rfl ⟨(blk_cell BK145.out 0).trans rfl, (blk_cell BK145.out 1).trans rfl, (blk_cell BK145.out 2).trans rfl, (blk_cell BK145.out 3).trans rfl, (blk_cell BK145.out 4).trans rfl⟩ (fun hHeld => ?_); refine with_tabW ccm_Close.tab12 ccm_Close.bits12 (fun HT_ HW_ => ?_)
                generalize wc.drew = w24 at BK145 HB hHeld ⊢
                refine pure_ (i := 0) (N := some 39) (v := ?_) (a' := ?_) #[true, false, false, false, false, false, false, false, false, false, false, false, false, false] rfl rfl (any_of HT_.out (by kernel_rfl)) (fun _ _ _ h => h) (Or.inl ⟨by rfl, ?_⟩) ?_ ?_
                rotate_left
                · intro w'
                  go_simp
                  with_reducible rfl
                rotate_left
                · simp only [Act.put, List.setIfInBounds_toArray, List.set_cons_zero, List.set_cons_succ, i64_w, i32_w]
                  rfl
                refine pure_ (i := 1) (N := some 40) (v := ?_) (a' := ?_) #[true, true, false, false, false, false, false, false, false, false, false, false, false, false] rfl rfl (any_of HT_.out (by kernel_rfl)) (fun _ _ _ h => h) (Or.inl ⟨by rfl, ?_⟩) ?_ ?_
                rotate_left
                · intro w'
                  go_simp
                  with_reducible rfl
                rotate_left
                · simp only [Act.put, List.setIfInBounds_toArray, List.set_cons_zero, List.set_cons_succ, i64_w, i32_w]
                  rfl
                refine pure_ (i := 2) (N := some 41) (v := ?_) (a' := ?_) #[true, true, true, false, false, false, false, false, false, false, false, false, false, false] rfl rfl (any_of HT_.out (by kernel_rfl)) (fun _ _ _ h => h) (Or.inl ⟨by rfl, ?_⟩) ?_ ?_
                rotate_left
                · intro w'
                  go_simp
                  with_reducible rfl
                rotate_left
                · simp only [Act.put, List.setIfInBounds_toArray, List.set_cons_zero, List.set_cons_succ, i64_w, i32_w]
                  rfl
                refine pure_ (i := 3) (N := some 42) (v := ?_) (a' := ?_) #[true, true, true, true, false, false, false, false, false, false, false, false, false, false] rfl rfl (any_of HT_.out (by kernel_rfl)) (fun _ _ _ h => h) (Or.inl ⟨by rfl, ?_⟩) ?_ ?_
                rotate_left
                · intro w'
                  go_simp
                  with_reducible rfl
                rotate_left
                · simp only [Act.put, List.setIfInBounds_toArray, List.set_cons_zero, List.set_cons_succ, i64_w, i32_w]
                  rfl
                refine pure_ (i := 4) (N := some 43) (v := ?_) (a' := ?_) #[true, true, true, true, true, false, false, false, false, false, false, false, false, false] rfl rfl (any_of HT_.out (by kernel_rfl)) (fun _ _ _ h => h) (Or.inl ⟨by rfl, ?_⟩) ?_ ?_
                rotate_left
                · intro w'
                  go_simp
                  with_reducible rfl
                rotate_left
                · simp only [Act.put, List.setIfInBounds_toArray, List.set_cons_zero, List.set_cons_succ, i64_w, i32_w]
                  rfl
                refine take_ (i := 5) (N := some 44) (v := ?_) (a' := ?_) #[true, true, true, true, true, true, false, false, false, false, false, false, false, false] rfl rfl (take_ofW HT_.out HW_.out (by kernel_rfl)) (fun _ _ _ h => h) (Or.inl ⟨by rfl, ?_⟩) hHeld ?_ ?_
                rotate_left
                · rintro w' ⟨s0, s1, s2, s3, s4⟩
                  go_simp
                  with_reducible rfl
                rotate_left
                · simp only [Act.put, List.setIfInBounds_toArray, List.set_cons_zero, List.set_cons_succ, i64_w, i32_w]
                  rfl
                refine pure_ (i := 6) (N := some 45) (v := ?_) (a' := ?_) #[true, true, true, true, true, true, true, false, false, false, false, false, false, false] rfl rfl (any_of HT_.out (by kernel_rfl)) (fun _ _ _ h => h) (Or.inl ⟨by rfl, ?_⟩) ?_ ?_
                rotate_left
                · intro w'
                  go_simp
                  with_reducible rfl
                rotate_left
                · simp only [Act.put, List.setIfInBounds_toArray, List.set_cons_zero, List.set_cons_succ, i64_w, i32_w]
                  rfl
                refine one_ (i := 7) (N := some 46) #[true, true, true, true, true, true, true, true, false, false, false, false, false, false] rfl rfl (one_of HT_.out (by kernel_rfl)) (by decide) (fun K hK => ?_)
                refine goes_ Try.func42 (by kernel_rfl) rfl #[.string (⟨#[0]⟩ : ByteArray), .int .i64 16] (by rfl) rfl rfl (by (try simp only [List.map_toArray, List.map_cons, List.map_nil]); first | done | rfl | (simp only [List.length_drop, List.length_take]; rfl)) ?_
                with_reducible refine (strings_Repeat.calls (⟨#[0]⟩ : ByteArray) 16 t152 _ A21.out).mono ?_
                rintro e w25 ⟨rfl, hb⟩
                refine ⟨_, rfl, ?_⟩
                have n0_ := Aside0.mk (blk_below (g := gb145) (o := .cells #[.bool a0_0, .int .u8 a0_1, .int .u32 a0_2, .int .u16 a0_3, .string a0_4] 62 (0, 0)) (by (with_reducible repeat (first | refine blk_drewN ?_ _ | refine blk_drew ?_ | refine blk_alloc ?_ _)); exact BK145.out) hb)
                have n1_ := Aside0.mk (below_step (by repeat (first | (with_reducible first | exact HB.out | apply below_alloc | apply pw_below_drewN | apply below_drew1 | refine below_set ?_ GE145.out) | exact HB.out)) hb)
                clear BK145
                clear HB
                have BK145 := n0_
                have HB := n1_
                clear n0_ n1_
                (try clear hb)
                (try clear hb2)
                (try clear hk)
                (try clear hi)
                refine hK.out _ _ ⟨(blk_cell BK145.out 0).trans rfl, (blk_cell BK145.out 1).trans rfl, (blk_cell BK145.out 2).trans rfl, (blk_cell BK145.out 3).trans rfl, (blk_cell BK145.out 4).trans rfl⟩ (fun hHeld => ?_)
                clear hK K
                refine norm_ (a' := ?_) ?_ ?_
                rotate_left
                · show Act.put _ (some 46) _ = _
                  simp only [Act.put, List.setIfInBounds_toArray, List.set_cons_zero, List.set_cons_succ, i64_w, i32_w]
                  rfl
                refine pure_ (i := 8) (N := some 47) (v := ?_) (a' := ?_) #[true, true, true, true, true, true, true, true, true, false, false, false, false, false] rfl rfl (any_of HT_.out (by kernel_rfl)) (fun _ _ _ h => h) (Or.inl ⟨by rfl, ?_⟩) ?_ ?_
                rotate_left
                · intro w'
                  go_simp
                  with_reducible rfl
                rotate_left
                · simp only [Act.put, List.setIfInBounds_toArray, List.set_cons_zero, List.set_cons_succ, i64_w, i32_w]
                  rfl
                refine one_ (i := 9) (N := some 48) #[true, true, true, true, true, true, true, true, true, true, false, false, false, false] rfl rfl (one_of HT_.out (by kernel_rfl)) (by decide) (fun K hK => ?_)
                refine goes_ Try.func56 (by kernel_rfl) rfl #[.agg #[.int .u8 a1, .int .u8 0, .int .u8 1, .int .u8 x9_8, .int .u8 70], .string ((t150 ++ a0_4) ++ t152)] (by rfl) rfl rfl (by (try simp only [List.map_toArray, List.map_cons, List.map_nil]); first | done | rfl | (simp only [List.length_drop, List.length_take]; rfl)) ?_
                with_reducible refine (oam_Close.calls a1 0 1 x9_8 70 ((t150 ++ a0_4) ++ t152) t153 t154 _ A23.out).mono ?_
                rintro e w26 ⟨rfl, hb⟩
                refine ⟨_, rfl, ?_⟩
                have n0_ := Aside0.mk (blk_below (g := gb145) (o := .cells #[.bool a0_0, .int .u8 a0_1, .int .u32 a0_2, .int .u16 a0_3, .string a0_4] 62 (0, 0)) (by (with_reducible repeat (first | refine blk_drewN ?_ _ | refine blk_drew ?_ | refine blk_alloc ?_ _)); exact BK145.out) hb)
                have n1_ := Aside0.mk (below_step (by repeat (first | (with_reducible first | exact HB.out | apply below_alloc | apply pw_below_drewN | apply below_drew1 | refine below_set ?_ GE145.out) | exact HB.out)) hb)
                clear BK145
                clear HB
                have BK145 := n0_
                have HB := n1_
                clear n0_ n1_
                (try clear hb)
                (try clear hb2)
                (try clear hk)
                (try clear hi)
                refine hK.out _ _ ⟨(blk_cell BK145.out 0).trans rfl, (blk_cell BK145.out 1).trans rfl, (blk_cell BK145.out 2).trans rfl, (blk_cell BK145.out 3).trans rfl, (blk_cell BK145.out 4).trans rfl⟩ (fun hHeld => ?_)
                clear hK K
                refine norm_ (a' := ?_) ?_ ?_
                rotate_left
                · show Act.put _ (some 48) _ = _
                  simp only [Act.put, List.setIfInBounds_toArray, List.set_cons_zero, List.set_cons_succ, i64_w, i32_w]
                  rfl
                refine pure_ (i := 10) (N := some 49) (v := ?_) (a' := ?_) #[true, true, true, true, true, true, true, true, true, true, true, false, false, false] rfl rfl (any_of HT_.out (by kernel_rfl)) (fun _ _ _ h => h) (Or.inl ⟨by rfl, ?_⟩) ?_ ?_
                rotate_left
                · intro w'
                  go_simp
                  with_reducible rfl
                rotate_left
                · simp only [Act.put, List.setIfInBounds_toArray, List.set_cons_zero, List.set_cons_succ, i64_w, i32_w]
                  rfl
                refine pure_ (i := 11) (N := some 50) (v := ?_) (a' := ?_) #[true, true, true, true, true, true, true, true, true, true, true, true, false, false] rfl rfl (any_of HT_.out (by kernel_rfl)) (fun _ _ _ h => h) (Or.inl ⟨by rfl, ?_⟩) ?_ ?_
                rotate_left
                · intro w'
                  go_simp
                  with_reducible rfl
                rotate_left
                · simp only [Act.put, List.setIfInBounds_toArray, List.set_cons_zero, List.set_cons_succ, i64_w, i32_w]
                  rfl
                refine pure_ (i := 12) (N := some 4) (v := ?_) (a' := ?_) #[true, true, true, true, true, true, true, true, true, true, true, true, true, false] rfl rfl (any_of HT_.out (by kernel_rfl)) (fun _ _ _ h => h) (Or.inl ⟨by rfl, ?_⟩) ?_ ?_
                rotate_left
                · intro w'
                  go_simp
                  with_reducible rfl
                rotate_left
                · simp only [Act.put, List.setIfInBounds_toArray, List.set_cons_zero, List.set_cons_succ, i64_w, i32_w]
                  rfl
                refine pure_ (i := 13) (N := some 5) (v := ?_) (a' := ?_) #[true, true, true, true, true, true, true, true, true, true, true, true, true, true] rfl rfl (any_of HT_.out (by kernel_rfl)) (fun _ _ _ h => h) (Or.inl ⟨by rfl, ?_⟩) ?_ ?_
                rotate_left
                · intro w'
                  go_simp
                  with_reducible rfl
                rotate_left
                · simp only [Act.put, List.setIfInBounds_toArray, List.set_cons_zero, List.set_cons_succ, i64_w, i32_w]
                  rfl
                refine done_ (done_of HT_.out (by kernel_rfl)) ?_
                try go_wp2
                go_ret2
                exact ⟨by first | rfl | (simp [errW_none, errW_some] <;> rfl) | (simp [*, errW_none, errW_some] <;> rfl), by repeat (first | (with_reducible first | exact HB.out | apply below_alloc | apply pw_below_drewN | apply below_drew1 | refine below_set ?_ GE145.out) | exact HB.out)⟩
              · rw [if_neg c22] at H
                exact absurd H (by simp)
            · rw [if_neg c20] at H
              exact absurd H (by simp)
      · rw [if_neg c8] at H
        have c8b0 : (t151 == 0) = false := beq_eq_false_iff_ne.mpr c8
        have c8b1 : (t151 != 0) = true := bne_iff_ne.mpr c8
        simp only [Option.some.injEq, Prod.mk.injEq] at H
        obtain ⟨rfl, rfl⟩ := H
        go_enter Try.func38, Try.ntmps38
        go_wp2_with (first | ((with_reducible refine gate_dst (N := 2) rfl ?_); refine box_event ?hg (N := 2) ?hd (cs := #[.bool a0_0, .int .u8 a0_1, .int .u32 a0_2, .int .u16 a0_3, .string a0_4]) (t := 62) ?hr ?_; (case hd => rfl); (case hg => rfl); (case hr => first | (go_simp; done) | (go_simp; rfl)); intro gb145 hg w27 hbox hb; have n0_ := Aside0.mk (below_step (by repeat (first | (with_reducible first | exact HB.out | apply below_alloc | apply pw_below_drewN | apply below_drew1) | exact HB.out)) hb); have n1_ := Aside0.mk (hbox); have n2_ := Aside0.mk ((by rw [hg]; exact (below_size (by repeat (first | (with_reducible first | exact HB.out | apply below_alloc | apply pw_below_drewN | apply below_drew1) | exact HB.out))) : w.heap.size ≤ gb145)); have n3_ := Aside0.mk ((by rw [hg]; exact (below_size (by repeat (first | (with_reducible first | exact HB.out | apply below_alloc | apply pw_below_drewN | apply below_drew1) | exact HB.out))) : w.heap.size ≤ gb145)); clear HB; have HB := n0_; have BK145 := n1_; have GW145 := n2_; have GE145 := n3_; clear n0_ n1_ n2_ n3_; clear hb hbox hg; have hcz28_0 : w27.cell? ⟨gb145, 0, none⟩ = some (.bool a0_0) := (blk_cell BK145.out 0).trans rfl; have hcz28_1 : w27.cell? ⟨gb145, 1, none⟩ = some (.int .u8 a0_1) := (blk_cell BK145.out 1).trans rfl; have hcz28_2 : w27.cell? ⟨gb145, 2, none⟩ = some (.int .u32 a0_2) := (blk_cell BK145.out 2).trans rfl; have hcz28_3 : w27.cell? ⟨gb145, 3, none⟩ = some (.int .u16 a0_3) := (blk_cell BK145.out 3).trans rfl; have hcz28_4 : w27.cell? ⟨gb145, 4, none⟩ = some (.string a0_4) := (blk_cell BK145.out 4).trans rfl; have hfz28_0 := blk_frozen BK145.out 0; have hfz28_1 := blk_frozen BK145.out 1; have hfz28_2 := blk_frozen BK145.out 2; have hfz28_3 := blk_frozen BK145.out 3; have hfz28_4 := blk_frozen BK145.out 4) | ((with_reducible refine gate_callee (f := 47) rfl ?_); refine goesL_ (some 13) rfl rfl Try.func47 (by kernel_rfl) rfl #[.agg #[.bool a0_0, .int .u8 a0_1, .int .u32 a0_2, .int .u16 a0_3, .string a0_4]] rfl (by (try simp only [List.map_toArray, List.map_cons, List.map_nil]); first | done | rfl | (simp only [List.length_drop, List.length_take]; rfl)) ?_; (with_reducible refine (ccm_Msg_wrong.calls k a0_0 a0_1 a0_2 a0_3 a0_4 t146 _ A5.out).mono ?_); rintro e w29 ⟨rfl, hb⟩; refine ⟨_, rfl, ?_⟩; have n0_ := Aside0.mk (blk_below (g := gb145) (o := .cells #[.bool a0_0, .int .u8 a0_1, .int .u32 a0_2, .int .u16 a0_3, .string a0_4] 62 (0, 0)) (by (with_reducible repeat (first | refine blk_drewN ?_ _ | refine blk_drew ?_ | refine blk_alloc ?_ _)); exact BK145.out) hb); have n1_ := Aside0.mk (below_step (by repeat (first | (with_reducible first | exact HB.out | apply below_alloc | apply pw_below_drewN | apply below_drew1 | refine below_set ?_ GE145.out) | exact HB.out)) hb); clear BK145; clear HB; have BK145 := n0_; have HB := n1_; clear n0_ n1_; (try clear hb); (try clear hb2); (try clear hk); (try clear hi); have hcz30_0 : w29.cell? ⟨gb145, 0, none⟩ = some (.bool a0_0) := (blk_cell BK145.out 0).trans rfl; have hcz30_1 : w29.cell? ⟨gb145, 1, none⟩ = some (.int .u8 a0_1) := (blk_cell BK145.out 1).trans rfl; have hcz30_2 : w29.cell? ⟨gb145, 2, none⟩ = some (.int .u32 a0_2) := (blk_cell BK145.out 2).trans rfl; have hcz30_3 : w29.cell? ⟨gb145, 3, none⟩ = some (.int .u16 a0_3) := (blk_cell BK145.out 3).trans rfl; have hcz30_4 : w29.cell? ⟨gb145, 4, none⟩ = some (.string a0_4) := (blk_cell BK145.out 4).trans rfl; have hfz30_0 := blk_frozen BK145.out 0; have hfz30_1 := blk_frozen BK145.out 1; have hfz30_2 := blk_frozen BK145.out 2; have hfz30_3 := blk_frozen BK145.out 3; have hfz30_4 := blk_frozen BK145.out 4) | ((with_reducible refine gate_dst (N := 26) rfl ?_); refine Kd.R_lit k100 _ 100 ?hg (N := 26) ?hd (xs := ([(⟨32, IntKind.u64.wrap (a0_2)⟩ : S100), (⟨16, IntKind.u64.wrap (a0_3)⟩ : S100)] : List (S100))) (inner := [.int .i64 32, .int .u64 (IntKind.u64.wrap (a0_2)), .int .i64 16, .int .u64 (IntKind.u64.wrap (a0_3))]) (ok := fun _ => True) (okp := fun _ => True) ?hr ?hp (fun _ hk => hk) trivial (Below.refl _ _) (Nat.le_refl _) (by simp) ?_; (case hd => rfl); (case hg => rfl); (case hr => first | (go_simp; done) | (go_simp; rfl)); (case hp => exact (Reps.c2 (show Kd.M k100 _ _ _ (⟨32, IntKind.u64.wrap (a0_2)⟩ : S100) [.int .i64 32, .int .u64 (IntKind.u64.wrap (a0_2))] from (k100_mkM _ _ _ (⟨32, IntKind.u64.wrap (a0_2)⟩ : S100) )) (Reps.c2 (show Kd.M k100 _ _ _ (⟨16, IntKind.u64.wrap (a0_3)⟩ : S100) [.int .i64 16, .int .u64 (IntKind.u64.wrap (a0_3))] from (k100_mkM _ _ _ (⟨16, IntKind.u64.wrap (a0_3)⟩ : S100) )) (Reps.none _ _)))); intro v148 w31 ho32 hb hg_ hnew_; clear hg_ hnew_; (first | rw [← Ny147.out] at ho32 | (simp only [Int.reduceToNat] at ho32; rw [← Ny147.out] at ho32)); have n0_ := Aside0.mk (Kd.R_lower ho32 (below_size (by repeat (first | (with_reducible first | exact HB.out | apply below_alloc | apply pw_below_drewN | apply below_drew1 | refine below_set ?_ GE145.out) | exact HB.out)))); have n1_ := Aside0.mk (blk_below (g := gb145) (o := .cells #[.bool a0_0, .int .u8 a0_1, .int .u32 a0_2, .int .u16 a0_3, .string a0_4] 62 (0, 0)) (by (with_reducible repeat (first | refine blk_drewN ?_ _ | refine blk_drew ?_ | refine blk_alloc ?_ _)); exact BK145.out) hb); have n2_ := Aside0.mk (below_step (by repeat (first | (with_reducible first | exact HB.out | apply below_alloc | apply pw_below_drewN | apply below_drew1 | refine below_set ?_ GE145.out) | exact HB.out)) hb); clear BK145; clear HB; have HO149 := n0_; have BK145 := n1_; have HB := n2_; clear n0_ n1_ n2_; clear hb ho32; obtain ⟨Ao33, co33, eo33⟩ := Kd.R_slice HO149.out; subst eo33) | ((with_reducible refine gate_callee (f := 55) rfl ?_); refine goesL_ (some 27) rfl rfl Try.func55 (by kernel_rfl) rfl #[.slice Ao33 y147.length co33] rfl (by (try simp only [List.map_toArray, List.map_cons, List.map_nil]); first | done | rfl | (simp only [List.length_drop, List.length_take]; rfl)) ?_; (with_reducible refine (field_Pack.calls _ _ y147 t150 t151 _ ?side1 ?side2 A7.out).mono ?_); (case side1 => repeat (first | exact (Kd.R_reads' HO149.out).2.2 | (with_reducible refine Kd.C_alloc ?_ _) | (with_reducible refine Kd.C_drewN ?_ _) | (with_reducible refine Kd.C_drew ?_))); (case side2 => exact (Kd.R_reads' HO149.out).2.1); rintro e w34 ⟨rfl, hb⟩; refine ⟨_, rfl, ?_⟩; have n0_ := Aside0.mk (Kd.R_below (by (with_reducible repeat (first | apply Kd.R_alloc | apply Kd.R_drewN | apply Kd.R_drew)); exact HO149.out) hb); have n1_ := Aside0.mk (blk_below (g := gb145) (o := .cells #[.bool a0_0, .int .u8 a0_1, .int .u32 a0_2, .int .u16 a0_3, .string a0_4] 62 (0, 0)) (by (with_reducible repeat (first | refine blk_drewN ?_ _ | refine blk_drew ?_ | refine blk_alloc ?_ _)); exact BK145.out) hb); have n2_ := Aside0.mk (below_step (by repeat (first | (with_reducible first | exact HB.out | apply below_alloc | apply pw_below_drewN | apply below_drew1 | refine below_set ?_ GE145.out) | exact HB.out)) hb); clear HO149; clear BK145; clear HB; have HO149 := n0_; have BK145 := n1_; have HB := n2_; clear n0_ n1_ n2_; (try clear hb); (try clear hb2); (try clear hk); (try clear hi)))
        go_ret2
        exact ⟨by first | rfl | (simp [errW_none, errW_some] <;> rfl) | (simp [*, errW_none, errW_some] <;> rfl), by repeat (first | (with_reducible first | exact HB.out | apply below_alloc | apply pw_below_drewN | apply below_drew1 | refine below_set ?_ GE145.out) | exact HB.out)⟩
    · rw [if_neg c6] at H
      have c6b0 : (t146 == 0) = false := beq_eq_false_iff_ne.mpr c6
      have c6b1 : (t146 != 0) = true := bne_iff_ne.mpr c6
      simp only [Option.some.injEq, Prod.mk.injEq] at H
      obtain ⟨rfl, rfl⟩ := H
      go_enter Try.func38, Try.ntmps38
      go_wp2_with (first | ((with_reducible refine gate_dst (N := 2) rfl ?_); refine box_event ?hg (N := 2) ?hd (cs := #[.bool a0_0, .int .u8 a0_1, .int .u32 a0_2, .int .u16 a0_3, .string a0_4]) (t := 62) ?hr ?_; (case hd => rfl); (case hg => rfl); (case hr => first | (go_simp; done) | (go_simp; rfl)); intro gb145 hg w35 hbox hb; have n0_ := Aside0.mk (below_step (by repeat (first | (with_reducible first | exact HB.out | apply below_alloc | apply pw_below_drewN | apply below_drew1) | exact HB.out)) hb); have n1_ := Aside0.mk (hbox); have n2_ := Aside0.mk ((by rw [hg]; exact (below_size (by repeat (first | (with_reducible first | exact HB.out | apply below_alloc | apply pw_below_drewN | apply below_drew1) | exact HB.out))) : w.heap.size ≤ gb145)); have n3_ := Aside0.mk ((by rw [hg]; exact (below_size (by repeat (first | (with_reducible first | exact HB.out | apply below_alloc | apply pw_below_drewN | apply below_drew1) | exact HB.out))) : w.heap.size ≤ gb145)); clear HB; have HB := n0_; have BK145 := n1_; have GW145 := n2_; have GE145 := n3_; clear n0_ n1_ n2_ n3_; clear hb hbox hg; have hcz36_0 : w35.cell? ⟨gb145, 0, none⟩ = some (.bool a0_0) := (blk_cell BK145.out 0).trans rfl; have hcz36_1 : w35.cell? ⟨gb145, 1, none⟩ = some (.int .u8 a0_1) := (blk_cell BK145.out 1).trans rfl; have hcz36_2 : w35.cell? ⟨gb145, 2, none⟩ = some (.int .u32 a0_2) := (blk_cell BK145.out 2).trans rfl; have hcz36_3 : w35.cell? ⟨gb145, 3, none⟩ = some (.int .u16 a0_3) := (blk_cell BK145.out 3).trans rfl; have hcz36_4 : w35.cell? ⟨gb145, 4, none⟩ = some (.string a0_4) := (blk_cell BK145.out 4).trans rfl; have hfz36_0 := blk_frozen BK145.out 0; have hfz36_1 := blk_frozen BK145.out 1; have hfz36_2 := blk_frozen BK145.out 2; have hfz36_3 := blk_frozen BK145.out 3; have hfz36_4 := blk_frozen BK145.out 4) | ((with_reducible refine gate_callee (f := 47) rfl ?_); refine goesL_ (some 13) rfl rfl Try.func47 (by kernel_rfl) rfl #[.agg #[.bool a0_0, .int .u8 a0_1, .int .u32 a0_2, .int .u16 a0_3, .string a0_4]] rfl (by (try simp only [List.map_toArray, List.map_cons, List.map_nil]); first | done | rfl | (simp only [List.length_drop, List.length_take]; rfl)) ?_; (with_reducible refine (ccm_Msg_wrong.calls k a0_0 a0_1 a0_2 a0_3 a0_4 t146 _ A5.out).mono ?_); rintro e w37 ⟨rfl, hb⟩; refine ⟨_, rfl, ?_⟩; have n0_ := Aside0.mk (blk_below (g := gb145) (o := .cells #[.bool a0_0, .int .u8 a0_1, .int .u32 a0_2, .int .u16 a0_3, .string a0_4] 62 (0, 0)) (by (with_reducible repeat (first | refine blk_drewN ?_ _ | refine blk_drew ?_ | refine blk_alloc ?_ _)); exact BK145.out) hb); have n1_ := Aside0.mk (below_step (by repeat (first | (with_reducible first | exact HB.out | apply below_alloc | apply pw_below_drewN | apply below_drew1 | refine below_set ?_ GE145.out) | exact HB.out)) hb); clear BK145; clear HB; have BK145 := n0_; have HB := n1_; clear n0_ n1_; (try clear hb); (try clear hb2); (try clear hk); (try clear hi)))
      go_ret2
      exact ⟨by first | rfl | (simp [errW_none, errW_some] <;> rfl) | (simp [*, errW_none, errW_some] <;> rfl), by repeat (first | (with_reducible first | exact HB.out | apply below_alloc | apply pw_below_drewN | apply below_drew1 | refine below_set ?_ GE145.out) | exact HB.out)⟩

/-! ### carousellaw04_Awake: function 54 -/
def carousellaw04_Awake.f  : Option (Bool) := (oam_Close.f 7 1 40 0 0 (⟨#[]⟩ : ByteArray)).bind fun bt155 => ((carousellaw01_Awake.f).bind fun t157 => (if t157 = true then (if bt155.2 = 0 then (some (bt155.1.toList == ([225, 40, 0, 0, 0] : List UInt8))) else (some false)) else (some false)))
set_option maxHeartbeats 8000000 in
set_option maxRecDepth 100000 in
theorem carousellaw04_Awake.calls  (r : Bool) (w : World) (h : carousellaw04_Awake.f  = some r) :
    Calls Try.prog 54 #[] w fun e w' => e = .returned (.bool r) ∧ Below w.heap.size w w' := by
  have hT : r = true := by
    have h1_ : carousellaw04_Awake.f = some true := by decide +kernel
    rw [h1_] at h
    exact (Option.some.inj h).symm
  have hu84 := Try.underlying84
  have HB := Aside0.mk (Below.refl w.heap.size w)
  have H : ((oam_Close.f 7 1 40 0 0 (⟨#[]⟩ : ByteArray)).bind fun bt155 => ((carousellaw01_Awake.f).bind fun t157 => (if t157 = true then (if bt155.2 = 0 then (some (bt155.1.toList == ([225, 40, 0, 0, 0] : List UInt8))) else (some false)) else (some false)))) = some r := h
  clear h
  replace H := Option.bind_eq_some_iff.mp H
  obtain ⟨⟨t155, t156⟩, A10, H⟩ := H
  replace H : ((carousellaw01_Awake.f).bind fun t157 => (if t157 = true then (if t156 = 0 then (some (t155.toList == ([225, 40, 0, 0, 0] : List UInt8))) else (some false)) else (some false))) = some r := H
  have A1 := Aside0.mk A10
  clear A10
  replace H := Option.bind_eq_some_iff.mp H
  obtain ⟨t157, A20, H⟩ := H
  replace H : (if t157 = true then (if t156 = 0 then (some (t155.toList == ([225, 40, 0, 0, 0] : List UInt8))) else (some false)) else (some false)) = some r := H
  have A2 := Aside0.mk A20
  clear A20
  by_cases c3 : t157 = true
  · subst c3
    have H1 : (if t156 = 0 then (some (t155.toList == ([225, 40, 0, 0, 0] : List UInt8))) else (some false)) = some r := by rw [if_pos rfl] at H; exact H
    clear H
    have H := H1
    clear H1
    by_cases c4 : t156 = 0
    · rw [if_pos c4] at H
      have c4b0 : (t156 == 0) = true := beq_iff_eq.mpr c4
      have c4b1 : (t156 != 0) = false := bne_eq_false_iff_eq.mpr c4
      clear c4
      obtain rfl := Option.some.inj H
      go_enter Try.func54, Try.ntmps54
      go_wp2_with (first | ((with_reducible refine gate_callee (f := 56) rfl ?_); refine goesL_ (some 5) rfl rfl Try.func56 (by kernel_rfl) rfl #[.agg #[.int .u8 7, .int .u8 1, .int .u8 40, .int .u8 0, .int .u8 0], .string (⟨#[]⟩ : ByteArray)] rfl (by (try simp only [List.map_toArray, List.map_cons, List.map_nil]); first | done | rfl | (simp only [List.length_drop, List.length_take]; rfl)) ?_; (with_reducible refine (oam_Close.calls 7 1 40 0 0 (⟨#[]⟩ : ByteArray) t155 t156 _ A1.out).mono ?_); rintro e w5 ⟨rfl, hb⟩; refine ⟨_, rfl, ?_⟩; have n0_ := Aside0.mk (below_step (by repeat (first | (with_reducible first | exact HB.out | apply below_alloc | apply pw_below_drewN | apply below_drew1) | exact HB.out)) hb); clear HB; have HB := n0_; clear n0_; (try clear hb); (try clear hb2); (try clear hk); (try clear hi)) | ((with_reducible refine gate_callee (f := 52) rfl ?_); refine goesL_ (some 8) rfl rfl Try.func52 (by kernel_rfl) rfl #[] rfl (by (try simp only [List.map_toArray, List.map_cons, List.map_nil]); first | done | rfl | (simp only [List.length_drop, List.length_take]; rfl)) ?_; (with_reducible refine (carousellaw01_Awake.calls  true _ A2.out).mono ?_); rintro e w6 ⟨rfl, hb⟩; refine ⟨_, rfl, ?_⟩; have n0_ := Aside0.mk (below_step (by repeat (first | (with_reducible first | exact HB.out | apply below_alloc | apply pw_below_drewN | apply below_drew1) | exact HB.out)) hb); clear HB; have HB := n0_; clear n0_; (try clear hb); (try clear hb2); (try clear hk); (try clear hi)))
      go_ret
      exact ⟨by first | rfl | (simp [errW_none, errW_some] <;> rfl) | (simp [*, errW_none, errW_some] <;> rfl), by repeat (first | (with_reducible first | exact HB.out | apply below_alloc | apply pw_below_drewN | apply below_drew1) | exact HB.out)⟩
    · rw [if_neg c4] at H
      have c4b0 : (t156 == 0) = false := beq_eq_false_iff_ne.mpr c4
      have c4b1 : (t156 != 0) = true := bne_iff_ne.mpr c4
      cases (Option.some.inj H).trans hT
  · replace c3 := Bool.eq_false_iff.mpr c3
    subst c3
    have H1 : (some false) = some r := by rw [if_neg (show ¬ (false = true) by decide)] at H; exact H
    clear H
    have H := H1
    clear H1
    cases (Option.some.inj H).trans hT

/-! ### carousellaw06_Awake: function 37 -/
def carousellaw06_Awake.f (k : Nat)  : Option (Bool) := (ccm_Name.f (⟨#[120]⟩ : ByteArray)).bind fun t158 => ((ccm_Close.f k true 4 0 1 t158 0).bind fun bt159 => ((carousellaw04_Awake.f).bind fun t161 => (if t161 = true then (if bt159.2 = 0 then (if (bt159.1.size : Int) = 75 then (if 2 < (bt159.1.size : Int) then (some ((bt bt159.1 2) == 132)) else (none)) else (some false)) else (some false)) else (some false))))
theorem carousellaw06_Awake.mono : ∀ k, LeO (carousellaw06_Awake.f k ) (carousellaw06_Awake.f (k + 1) ) := by
  intro  k
  unfold carousellaw06_Awake.f
  repeat' first
      | (with_reducible exact ccm_Close.mono _ _ _ _ _ _ _)
      | (with_reducible exact LeO.refl _)
      | (with_reducible exact LeO.none _)
      | (with_reducible refine LeO.ite ?_ ?_)
      | (with_reducible refine LeO.bind ?_ (fun _ => ?_))
      | exact ccm_Close.mono _ _ _ _ _ _ _
      | exact LeO.none _
      | refine LeO.ite ?_ ?_
      | refine LeO.bind ?_ (fun _ => ?_)
set_option maxHeartbeats 8000000 in
set_option maxRecDepth 100000 in
theorem carousellaw06_Awake.calls (k : Nat)  (r : Bool) (w : World) (h : carousellaw06_Awake.f k  = some r) :
    Calls Try.prog 37 #[] w fun e w' => e = .returned (.bool r) ∧ Below w.heap.size w w' := by
  have hT : r = true := by
    obtain ⟨K_, hK_⟩ := (Ev.of carousellaw06_Awake.mono (k := 60) (by decide +kernel) : Ev (fun k => carousellaw06_Awake.f k) true)
    have h1_ := at_rounds carousellaw06_Awake.mono (Nat.le_max_left k K_) h
    exact (Option.some.inj ((hK_ _ (Nat.le_max_right k K_)).symm.trans h1_)).symm
  have hu62 := Try.underlying62
  have HB := Aside0.mk (Below.refl w.heap.size w)
  have H : ((ccm_Name.f (⟨#[120]⟩ : ByteArray)).bind fun t158 => ((ccm_Close.f k true 4 0 1 t158 0).bind fun bt159 => ((carousellaw04_Awake.f).bind fun t161 => (if t161 = true then (if bt159.2 = 0 then (if (bt159.1.size : Int) = 75 then (if 2 < (bt159.1.size : Int) then (some ((bt bt159.1 2) == 132)) else (none)) else (some false)) else (some false)) else (some false))))) = some r := h
  clear h
  replace H := Option.bind_eq_some_iff.mp H
  obtain ⟨t158, A10, H⟩ := H
  replace H : ((ccm_Close.f k true 4 0 1 t158 0).bind fun bt159 => ((carousellaw04_Awake.f).bind fun t161 => (if t161 = true then (if bt159.2 = 0 then (if (bt159.1.size : Int) = 75 then (if 2 < (bt159.1.size : Int) then (some ((bt bt159.1 2) == 132)) else (none)) else (some false)) else (some false)) else (some false)))) = some r := H
  have A1 := Aside0.mk A10
  clear A10
  replace H := Option.bind_eq_some_iff.mp H
  obtain ⟨⟨t159, t160⟩, A20, H⟩ := H
  replace H : ((carousellaw04_Awake.f).bind fun t161 => (if t161 = true then (if t160 = 0 then (if (t159.size : Int) = 75 then (if 2 < (t159.size : Int) then (some ((bt t159 2) == 132)) else (none)) else (some false)) else (some false)) else (some false))) = some r := H
  have A2 := Aside0.mk A20
  clear A20
  replace H := Option.bind_eq_some_iff.mp H
  obtain ⟨t161, A30, H⟩ := H
  replace H : (if t161 = true then (if t160 = 0 then (if (t159.size : Int) = 75 then (if 2 < (t159.size : Int) then (some ((bt t159 2) == 132)) else (none)) else (some false)) else (some false)) else (some false)) = some r := H
  have A3 := Aside0.mk A30
  clear A30
  by_cases c4 : t161 = true
  · subst c4
    have H1 : (if t160 = 0 then (if (t159.size : Int) = 75 then (if 2 < (t159.size : Int) then (some ((bt t159 2) == 132)) else (none)) else (some false)) else (some false)) = some r := by rw [if_pos rfl] at H; exact H
    clear H
    have H := H1
    clear H1
    by_cases c5 : t160 = 0
    · rw [if_pos c5] at H
      have c5b0 : (t160 == 0) = true := beq_iff_eq.mpr c5
      have c5b1 : (t160 != 0) = false := bne_eq_false_iff_eq.mpr c5
      clear c5
      by_cases c6 : (t159.size : Int) = 75
      · rw [if_pos c6] at H
        have c6b0 : ((t159.size : Int) == 75) = true := beq_iff_eq.mpr c6
        have c6b1 : ((t159.size : Int) != 75) = false := bne_eq_false_iff_eq.mpr c6
        clear c6
        by_cases c7 : 2 < (t159.size : Int)
        · rw [if_pos c7] at H
          have c7b0 : decide (2 < (t159.size : Int)) = true := decide_eq_true c7
          have c7b1 : decide (2 < t159.size) = true := decide_eq_true (by omega)
          clear c7
          obtain rfl := Option.some.inj H
          go_enter Try.func37, Try.ntmps37
          go_wp2_with (first | ((with_reducible refine gate_callee (f := 28) rfl ?_); refine goesL_ (some 4) rfl rfl Try.func28 (by kernel_rfl) rfl #[.string (⟨#[120]⟩ : ByteArray)] rfl (by (try simp only [List.map_toArray, List.map_cons, List.map_nil]); first | done | rfl | (simp only [List.length_drop, List.length_take]; rfl)) ?_; (with_reducible refine (ccm_Name.calls (⟨#[120]⟩ : ByteArray) t158 _ A1.out).mono ?_); rintro e w9 ⟨rfl, hb⟩; refine ⟨_, rfl, ?_⟩; have n0_ := Aside0.mk (below_step (by repeat (first | (with_reducible first | exact HB.out | apply below_alloc | apply pw_below_drewN | apply below_drew1) | exact HB.out)) hb); clear HB; have HB := n0_; clear n0_; (try clear hb); (try clear hb2); (try clear hk); (try clear hi)) | ((with_reducible refine gate_callee (f := 38) rfl ?_); refine goesL_ (some 6) rfl rfl Try.func38 (by kernel_rfl) rfl #[.agg #[.bool true, .int .u8 4, .int .u32 0, .int .u16 1, .string t158], .int .u8 0] rfl (by (try simp only [List.map_toArray, List.map_cons, List.map_nil]); first | done | rfl | (simp only [List.length_drop, List.length_take]; rfl)) ?_; (with_reducible refine (ccm_Close.calls k true 4 0 1 t158 0 t159 t160 _ A2.out).mono ?_); rintro e w10 ⟨rfl, hb⟩; refine ⟨_, rfl, ?_⟩; have n0_ := Aside0.mk (below_step (by repeat (first | (with_reducible first | exact HB.out | apply below_alloc | apply pw_below_drewN | apply below_drew1) | exact HB.out)) hb); clear HB; have HB := n0_; clear n0_; (try clear hb); (try clear hb2); (try clear hk); (try clear hi)) | ((with_reducible refine gate_callee (f := 54) rfl ?_); refine goesL_ (some 9) rfl rfl Try.func54 (by kernel_rfl) rfl #[] rfl (by (try simp only [List.map_toArray, List.map_cons, List.map_nil]); first | done | rfl | (simp only [List.length_drop, List.length_take]; rfl)) ?_; (with_reducible refine (carousellaw04_Awake.calls  true _ A3.out).mono ?_); rintro e w11 ⟨rfl, hb⟩; refine ⟨_, rfl, ?_⟩; have n0_ := Aside0.mk (below_step (by repeat (first | (with_reducible first | exact HB.out | apply below_alloc | apply pw_below_drewN | apply below_drew1) | exact HB.out)) hb); clear HB; have HB := n0_; clear n0_; (try clear hb); (try clear hb2); (try clear hk); (try clear hi); have p8 : 0 ≤ (2 : Int) := (by omega); have q8 : 2 < t159.size := (by have : (2 : Int) < (t159.size : Int) := of_decide_eq_true (by first | (with_reducible assumption) | assumption); omega); have hx8 : ∀ h : 2 < t159.size, ((t159[2]'h).toNat : Int) = bt t159 2 := bt_at t159 2; clear p8; have qi8 : (2 < (t159.size : Int)) = True := eq_true (of_decide_eq_true (by first | (with_reducible assumption) | assumption)); replace q8 := eq_true q8))
          go_ret
          exact ⟨by first | rfl | (simp [errW_none, errW_some] <;> rfl) | (simp [*, errW_none, errW_some] <;> rfl), by repeat (first | (with_reducible first | exact HB.out | apply below_alloc | apply pw_below_drewN | apply below_drew1) | exact HB.out)⟩
        · rw [if_neg c7] at H
          exact absurd H (by simp)
      · rw [if_neg c6] at H
        have c6b0 : ((t159.size : Int) == 75) = false := beq_eq_false_iff_ne.mpr c6
        have c6b1 : ((t159.size : Int) != 75) = true := bne_iff_ne.mpr c6
        cases (Option.some.inj H).trans hT
    · rw [if_neg c5] at H
      have c5b0 : (t160 == 0) = false := beq_eq_false_iff_ne.mpr c5
      have c5b1 : (t160 != 0) = true := bne_iff_ne.mpr c5
      cases (Option.some.inj H).trans hT
  · replace c4 := Bool.eq_false_iff.mpr c4
    subst c4
    have H1 : (some false) = some r := by rw [if_neg (show ¬ (false = true) by decide)] at H; exact H
    clear H
    have H := H1
    clear H1
    cases (Option.some.inj H).trans hT

end Go.Proofs.Ytapicoienpbdfaa.PPlanRings
