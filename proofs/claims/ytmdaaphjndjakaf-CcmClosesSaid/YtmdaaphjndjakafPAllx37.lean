-- Written by a program of this work, after the translation.
import Derived.Test.YtmdaaphjndjakafPAllx0
import Derived.Test.YtmdaaphjndjakafPAllx30
import Derived.Test.YtmdaaphjndjakafPAllx31
import Derived.Test.YtmdaaphjndjakafPAllx35
import Derived.Test.YtmdaaphjndjakafPAllx36
namespace Go.Proofs.Ytmdaaphjndjakaf.PAll
open Go.RowKit Go.Proofs.YtmdaaphjndjakafW.PrintWords Go.Proofs.YtmdaaphjndjakafW.PrintLast Go.Proofs.YtmdaaphjndjakafW.PrintMore
attribute [local go_sem] max2_int min2_int max_two min_two max_three min_three max_four min_four   -- for this text's walks alone
set_option linter.unusedVariables false
set_option linter.unusedSimpArgs false

/-! ### carousellaw06_CcmCloses: function 7 -/
def carousellaw06_CcmCloses.j0 : Nat → Int → ByteArray → Bool → Bool → Int → Int → Int → ByteArray → Option (Bool)
  | 0, _, _, _, _, _, _, _, _ => none
  | k + 1, x1, x2, x19, x406000, x406001, x406002, x406003, x406004 => if x19 = true then ((carousellaw06_Awake.f k).bind fun t406 => (some t406)) else ((ccm_Close.f k x406000 x406001 x406002 x406003 x406004 x1).bind fun bt407 => ((carouselref06_Close.f k x406000 x406001 x406002 x406003 x406004 x1).bind fun bt409 => ((carousellaw06_Awake.f k).bind fun t411 => (if t411 = true then (if bt407.1.toList = bt409.1.toList then (if bt407.2 = bt409.2 then ((ccm_Name.f x2).bind fun t412 => ((carouselref06_Name.f k x2).bind fun t413 => (some (t412.toList == t413.toList)))) else (some false)) else (some false)) else (some false)))))
def carousellaw06_CcmCloses.f (k : Nat) (a0_0 : Bool) (a0_1 : Int) (a0_2 : Int) (a0_3 : Int) (a0_4 : ByteArray) (a1 : Int) (a2 : ByteArray) : Option (Bool) := if (a0_4.size : Int) > 200 then (carousellaw06_CcmCloses.j0 k a1 a2 true a0_0 a0_1 a0_2 a0_3 a0_4) else (carousellaw06_CcmCloses.j0 k a1 a2 (decide ((a2.size : Int) > 200)) a0_0 a0_1 a0_2 a0_3 a0_4)
theorem carousellaw06_CcmCloses.mono_l : ∀ k, (∀ y0 y1 y2 y3 y4 y5 y6 y7, LeO (carousellaw06_CcmCloses.j0 k y0 y1 y2 y3 y4 y5 y6 y7) (carousellaw06_CcmCloses.j0 (k + 1) y0 y1 y2 y3 y4 y5 y6 y7))
  | 0 => fun _ _ _ _ _ _ _ _ r h => by simp [carousellaw06_CcmCloses.j0] at h
  | k + 1 => by
    have ih0 := carousellaw06_CcmCloses.mono_l k
    · intro y0 y1 y2 y3 y4 y5 y6 y7
      unfold carousellaw06_CcmCloses.j0
      repeat' first
      | (with_reducible exact ih0 _ _ _ _ _ _ _ _)
      | (with_reducible exact carousellaw06_Awake.mono _)
      | (with_reducible exact carouselref06_Close.mono _ _ _ _ _ _ _)
      | (with_reducible exact carouselref06_Name.mono _ _)
      | (with_reducible exact ccm_Close.mono _ _ _ _ _ _ _)
      | (with_reducible exact LeO.refl _)
      | (with_reducible exact LeO.none _)
      | (with_reducible refine LeO.ite ?_ ?_)
      | (with_reducible refine LeO.bind ?_ (fun _ => ?_))
      | exact ih0 _ _ _ _ _ _ _ _
      | exact carousellaw06_Awake.mono _
      | exact carouselref06_Close.mono _ _ _ _ _ _ _
      | exact carouselref06_Name.mono _ _
      | exact ccm_Close.mono _ _ _ _ _ _ _
      | exact LeO.none _
      | refine LeO.ite ?_ ?_
      | refine LeO.bind ?_ (fun _ => ?_)
theorem carousellaw06_CcmCloses.mono : ∀ a0 a1 a2 a3 a4 a5 a6 k, LeO (carousellaw06_CcmCloses.f k a0 a1 a2 a3 a4 a5 a6) (carousellaw06_CcmCloses.f (k + 1) a0 a1 a2 a3 a4 a5 a6) := by
  intro a0 a1 a2 a3 a4 a5 a6 k
  have ih0 := carousellaw06_CcmCloses.mono_l k
  unfold carousellaw06_CcmCloses.f
  repeat' first
      | (with_reducible exact ih0 _ _ _ _ _ _ _ _)
      | (with_reducible exact carousellaw06_Awake.mono _)
      | (with_reducible exact carouselref06_Close.mono _ _ _ _ _ _ _)
      | (with_reducible exact carouselref06_Name.mono _ _)
      | (with_reducible exact ccm_Close.mono _ _ _ _ _ _ _)
      | (with_reducible exact LeO.refl _)
      | (with_reducible exact LeO.none _)
      | (with_reducible refine LeO.ite ?_ ?_)
      | (with_reducible refine LeO.bind ?_ (fun _ => ?_))
      | exact ih0 _ _ _ _ _ _ _ _
      | exact carousellaw06_Awake.mono _
      | exact carouselref06_Close.mono _ _ _ _ _ _ _
      | exact carouselref06_Name.mono _ _
      | exact ccm_Close.mono _ _ _ _ _ _ _
      | exact LeO.none _
      | refine LeO.ite ?_ ?_
      | refine LeO.bind ?_ (fun _ => ?_)
set_option maxHeartbeats 8000000 in
set_option maxRecDepth 100000 in
theorem carousellaw06_CcmCloses.calls (k : Nat) (a0_0 : Bool) (a0_1 : Int) (a0_2 : Int) (a0_3 : Int) (a0_4 : ByteArray) (a1 : Int) (a2 : ByteArray) (r : Bool) (w : World) (h : carousellaw06_CcmCloses.f k a0_0 a0_1 a0_2 a0_3 a0_4 a1 a2 = some r) :
    Calls Try.prog 7 #[.agg #[.bool a0_0, .int .u8 a0_1, .int .u32 a0_2, .int .u16 a0_3, .string a0_4], .int .u8 a1, .string a2] w fun e w' => e = .returned (.bool r) ∧ Below w.heap.size w w' := by
  have hu55 := Try.underlying55
  have HB := Aside0.mk (Below.refl w.heap.size w)
  have H : (if (a0_4.size : Int) > 200 then (carousellaw06_CcmCloses.j0 k a1 a2 true a0_0 a0_1 a0_2 a0_3 a0_4) else (carousellaw06_CcmCloses.j0 k a1 a2 (decide ((a2.size : Int) > 200)) a0_0 a0_1 a0_2 a0_3 a0_4)) = some r := h
  clear h
  have HC4 := Aside0.mk H
  clear H
  go_enter Try.func7, Try.ntmps7
  go_upto_region 1 with (first | ((with_reducible refine gate_dst (N := 3) rfl ?_); (try (refine gate_guard (by rfl) ?_; dsimp only)); refine box_event ?hg (N := 3) ?hd (cs := #[.bool a0_0, .int .u8 a0_1, .int .u32 a0_2, .int .u16 a0_3, .string a0_4]) (t := 55) ?hr ?_; (case hd => rfl); (case hg => rfl); (case hr => first | (go_simp; done) | (go_simp; rfl)); intro gb405 hg w5 hbox hb; have n0_ := Aside0.mk (below_step (by repeat (first | (with_reducible first | exact HB.out | apply below_alloc | apply pw_below_drewN | apply below_drew1) | exact HB.out)) hb); have n1_ := Aside0.mk (hbox); have n2_ := Aside0.mk ((by rw [hg]; exact (below_size (by repeat (first | (with_reducible first | exact HB.out | apply below_alloc | apply pw_below_drewN | apply below_drew1) | exact HB.out))) : w.heap.size ≤ gb405)); have n3_ := Aside0.mk ((by rw [hg]; exact (below_size (by repeat (first | (with_reducible first | exact HB.out | apply below_alloc | apply pw_below_drewN | apply below_drew1) | exact HB.out))) : w.heap.size ≤ gb405)); clear HB; have HB := n0_; have BK405 := n1_; have GW405 := n2_; have GE405 := n3_; clear n0_ n1_ n2_ n3_; clear hb hbox hg))
  (try simp only [Act.put, List.setIfInBounds_toArray, List.set_cons_zero, List.set_cons_succ])
  go_cut [19] (fun v19 wc => ∃ (kq : Nat) (x19_3 : Bool), v19 = .bool x19_3 ∧ Aside0 (carousellaw06_CcmCloses.j0 kq a1 a2 x19_3 a0_0 a0_1 a0_2 a0_3 a0_4 = some r) ∧ Aside0 (kq ≤ k) ∧ Aside0 (wc.heap[gb405]? = some (.cells #[.bool a0_0, .int .u8 a0_1, .int .u32 a0_2, .int .u16 a0_3, .string a0_4] 55 (0, 0))) ∧ Aside0 (Below w.heap.size w wc))
  case first =>
    have H := HC4.out
    clear HC4
    by_cases c6 : (a0_4.size : Int) > 200
    · rw [if_pos c6] at H
      have c6b0 : decide (200 < (a0_4.size : Int)) = true := decide_eq_true c6
      have c6b1 : decide (200 < a0_4.size) = true := decide_eq_true (by omega)
      clear c6
      (first | rw [c6b0] | (simp only [i64_w, i32_w]; rw [c6b0]) | skip)
      have H' := Aside0.mk H
      clear H
      have hcz7_0 : w5.cell? ⟨gb405, 0, none⟩ = some (.bool a0_0) := (blk_cell BK405.out 0).trans rfl
      have hcz7_1 : w5.cell? ⟨gb405, 1, none⟩ = some (.int .u8 a0_1) := (blk_cell BK405.out 1).trans rfl
      have hcz7_2 : w5.cell? ⟨gb405, 2, none⟩ = some (.int .u32 a0_2) := (blk_cell BK405.out 2).trans rfl
      have hcz7_3 : w5.cell? ⟨gb405, 3, none⟩ = some (.int .u16 a0_3) := (blk_cell BK405.out 3).trans rfl
      have hcz7_4 : w5.cell? ⟨gb405, 4, none⟩ = some (.string a0_4) := (blk_cell BK405.out 4).trans rfl
      have hfz7_0 := blk_frozen BK405.out 0
      have hfz7_1 := blk_frozen BK405.out 1
      have hfz7_2 := blk_frozen BK405.out 2
      have hfz7_3 := blk_frozen BK405.out 3
      have hfz7_4 := blk_frozen BK405.out 4
      go_wp2
      go_meet
      case rel => exact ⟨_, (true), (by first | rfl | (simp; done) | (simp [*]; done)), H', ⟨by first | omega | exact Nat.le_refl _⟩, ⟨by (with_reducible repeat (first | refine blk_drewN ?_ _ | refine blk_drew ?_ | refine blk_alloc ?_ _)); exact BK405.out⟩, ⟨by repeat (first | (with_reducible first | exact HB.out | apply below_alloc | apply pw_below_drewN | apply below_drew1 | refine below_set ?_ GE405.out) | exact HB.out)⟩⟩
    · rw [if_neg c6] at H
      have c6b0 : decide (200 < (a0_4.size : Int)) = false := decide_eq_false c6
      have c6b1 : decide (200 < a0_4.size) = false := decide_eq_false (by omega)
      clear c6
      (first | rw [c6b0] | (simp only [i64_w, i32_w]; rw [c6b0]) | skip)
      have H' := Aside0.mk H
      clear H
      have hcz8_0 : w5.cell? ⟨gb405, 0, none⟩ = some (.bool a0_0) := (blk_cell BK405.out 0).trans rfl
      have hcz8_1 : w5.cell? ⟨gb405, 1, none⟩ = some (.int .u8 a0_1) := (blk_cell BK405.out 1).trans rfl
      have hcz8_2 : w5.cell? ⟨gb405, 2, none⟩ = some (.int .u32 a0_2) := (blk_cell BK405.out 2).trans rfl
      have hcz8_3 : w5.cell? ⟨gb405, 3, none⟩ = some (.int .u16 a0_3) := (blk_cell BK405.out 3).trans rfl
      have hcz8_4 : w5.cell? ⟨gb405, 4, none⟩ = some (.string a0_4) := (blk_cell BK405.out 4).trans rfl
      have hfz8_0 := blk_frozen BK405.out 0
      have hfz8_1 := blk_frozen BK405.out 1
      have hfz8_2 := blk_frozen BK405.out 2
      have hfz8_3 := blk_frozen BK405.out 3
      have hfz8_4 := blk_frozen BK405.out 4
      go_wp2
      go_meet
      case rel => exact ⟨_, (decide ((a2.size : Int) > 200)), (by first | rfl | (simp; done) | (simp [*]; done)), H', ⟨by first | omega | exact Nat.le_refl _⟩, ⟨by (with_reducible repeat (first | refine blk_drewN ?_ _ | refine blk_drew ?_ | refine blk_alloc ?_ _)); exact BK405.out⟩, ⟨by repeat (first | (with_reducible first | exact HB.out | apply below_alloc | apply pw_below_drewN | apply below_drew1 | refine below_set ?_ GE405.out) | exact HB.out)⟩⟩
  case rest =>
    clear HC4
    try clear p2
    try clear c6
    try clear c6b0
    try clear c6b1
    try clear c7
    try clear hcz7_0
    try clear hcz7_1
    try clear hcz7_2
    try clear hcz7_3
    try clear hcz7_4
    try clear hcz8_0
    try clear hcz8_1
    try clear hcz8_2
    try clear hcz8_3
    try clear hcz8_4
    try clear hfz7_0
    try clear hfz7_1
    try clear hfz7_2
    try clear hfz7_3
    try clear hfz7_4
    try clear hfz8_0
    try clear hfz8_1
    try clear hfz8_2
    try clear hfz8_3
    try clear hfz8_4
    obtain ⟨kq, x19_3, rfl, HA, HJ3, BK405, HB⟩ := hcut
    cases kq with
    | zero => exact absurd HA.out (by simp [carousellaw06_CcmCloses.j0])
    | succ kj3 =>
      have H := HA.out
      clear HA
      simp only [carousellaw06_CcmCloses.j0] at H
      by_cases c9 : x19_3 = true
      · subst c9
        have H1 : ((carousellaw06_Awake.f kj3).bind fun t406 => (some t406)) = some r := by rw [if_pos rfl] at H; exact H
        clear H
        have H := H1
        clear H1
        replace H := Option.bind_eq_some_iff.mp H
        obtain ⟨t406, A100, H⟩ := H
        replace H : (some t406) = some r := H
        have A10 := Aside0.mk A100
        clear A100
        obtain rfl := Option.some.inj H
        go_wp2_with (first | ((with_reducible refine gate_callee (f := 25) rfl ?_); refine goesL_ (some 20) rfl rfl Try.func25 (by kernel_rfl) rfl #[] rfl (by (try simp only [List.map_toArray, List.map_cons, List.map_nil]); first | done | rfl | (simp only [List.length_drop, List.length_take]; rfl)) ?_; (with_reducible refine (carousellaw06_Awake.calls kj3  t406 _ A10.out).mono ?_); rintro e w11 ⟨rfl, hb⟩; refine ⟨_, rfl, ?_⟩; have n0_ := Aside0.mk (blk_below (g := gb405) (o := .cells #[.bool a0_0, .int .u8 a0_1, .int .u32 a0_2, .int .u16 a0_3, .string a0_4] 55 (0, 0)) (by (with_reducible repeat (first | refine blk_drewN ?_ _ | refine blk_drew ?_ | refine blk_alloc ?_ _)); exact BK405.out) hb); have n1_ := Aside0.mk (below_step (by repeat (first | (with_reducible first | exact HB.out | apply below_alloc | apply pw_below_drewN | apply below_drew1 | refine below_set ?_ GE405.out) | exact HB.out)) hb); clear BK405; clear HB; have BK405 := n0_; have HB := n1_; clear n0_ n1_; (try clear hb); (try clear hb2); (try clear hk); (try clear hi)))
        go_ret
        exact ⟨by first | rfl | (simp [errW_none, errW_some] <;> rfl) | (simp [*, errW_none, errW_some] <;> rfl), by repeat (first | (with_reducible first | exact HB.out | apply below_alloc | apply pw_below_drewN | apply below_drew1 | refine below_set ?_ GE405.out) | exact HB.out)⟩
      · replace c9 := Bool.eq_false_iff.mpr c9
        subst c9
        have H1 : ((ccm_Close.f kj3 a0_0 a0_1 a0_2 a0_3 a0_4 a1).bind fun bt407 => ((carouselref06_Close.f kj3 a0_0 a0_1 a0_2 a0_3 a0_4 a1).bind fun bt409 => ((carousellaw06_Awake.f kj3).bind fun t411 => (if t411 = true then (if bt407.1.toList = bt409.1.toList then (if bt407.2 = bt409.2 then ((ccm_Name.f a2).bind fun t412 => ((carouselref06_Name.f kj3 a2).bind fun t413 => (some (t412.toList == t413.toList)))) else (some false)) else (some false)) else (some false))))) = some r := by rw [if_neg (show ¬ (false = true) by decide)] at H; exact H
        clear H
        have H := H1
        clear H1
        replace H := Option.bind_eq_some_iff.mp H
        obtain ⟨⟨t407, t408⟩, A120, H⟩ := H
        replace H : ((carouselref06_Close.f kj3 a0_0 a0_1 a0_2 a0_3 a0_4 a1).bind fun bt409 => ((carousellaw06_Awake.f kj3).bind fun t411 => (if t411 = true then (if t407.toList = bt409.1.toList then (if t408 = bt409.2 then ((ccm_Name.f a2).bind fun t412 => ((carouselref06_Name.f kj3 a2).bind fun t413 => (some (t412.toList == t413.toList)))) else (some false)) else (some false)) else (some false)))) = some r := H
        have A12 := Aside0.mk A120
        clear A120
        replace H := Option.bind_eq_some_iff.mp H
        obtain ⟨⟨t409, t410⟩, A130, H⟩ := H
        replace H : ((carousellaw06_Awake.f kj3).bind fun t411 => (if t411 = true then (if t407.toList = t409.toList then (if t408 = t410 then ((ccm_Name.f a2).bind fun t412 => ((carouselref06_Name.f kj3 a2).bind fun t413 => (some (t412.toList == t413.toList)))) else (some false)) else (some false)) else (some false))) = some r := H
        have A13 := Aside0.mk A130
        clear A130
        replace H := Option.bind_eq_some_iff.mp H
        obtain ⟨t411, A140, H⟩ := H
        replace H : (if t411 = true then (if t407.toList = t409.toList then (if t408 = t410 then ((ccm_Name.f a2).bind fun t412 => ((carouselref06_Name.f kj3 a2).bind fun t413 => (some (t412.toList == t413.toList)))) else (some false)) else (some false)) else (some false)) = some r := H
        have A14 := Aside0.mk A140
        clear A140
        by_cases c15 : t411 = true
        · subst c15
          have H1 : (if t407.toList = t409.toList then (if t408 = t410 then ((ccm_Name.f a2).bind fun t412 => ((carouselref06_Name.f kj3 a2).bind fun t413 => (some (t412.toList == t413.toList)))) else (some false)) else (some false)) = some r := by rw [if_pos rfl] at H; exact H
          clear H
          have H := H1
          clear H1
          by_cases c16 : t407.toList = t409.toList
          · rw [if_pos c16] at H
            have c16b0 : (t407.toList == t409.toList) = true := beq_iff_eq.mpr c16
            have c16b1 : (t407.toList != t409.toList) = false := bne_eq_false_iff_eq.mpr c16
            clear c16
            by_cases c17 : t408 = t410
            · rw [if_pos c17] at H
              have c17b0 : (t408 == t410) = true := beq_iff_eq.mpr c17
              have c17b1 : (t408 != t410) = false := bne_eq_false_iff_eq.mpr c17
              clear c17
              replace H := Option.bind_eq_some_iff.mp H
              obtain ⟨t412, A180, H⟩ := H
              replace H : ((carouselref06_Name.f kj3 a2).bind fun t413 => (some (t412.toList == t413.toList))) = some r := H
              have A18 := Aside0.mk A180
              clear A180
              replace H := Option.bind_eq_some_iff.mp H
              obtain ⟨t413, A190, H⟩ := H
              replace H : (some (t412.toList == t413.toList)) = some r := H
              have A19 := Aside0.mk A190
              clear A190
              obtain rfl := Option.some.inj H
              have hcz20_0 : wc.cell? ⟨gb405, 0, none⟩ = some (.bool a0_0) := (blk_cell BK405.out 0).trans rfl
              have hcz20_1 : wc.cell? ⟨gb405, 1, none⟩ = some (.int .u8 a0_1) := (blk_cell BK405.out 1).trans rfl
              have hcz20_2 : wc.cell? ⟨gb405, 2, none⟩ = some (.int .u32 a0_2) := (blk_cell BK405.out 2).trans rfl
              have hcz20_3 : wc.cell? ⟨gb405, 3, none⟩ = some (.int .u16 a0_3) := (blk_cell BK405.out 3).trans rfl
              have hcz20_4 : wc.cell? ⟨gb405, 4, none⟩ = some (.string a0_4) := (blk_cell BK405.out 4).trans rfl
              have hfz20_0 := blk_frozen BK405.out 0
              have hfz20_1 := blk_frozen BK405.out 1
              have hfz20_2 := blk_frozen BK405.out 2
              have hfz20_3 := blk_frozen BK405.out 3
              have hfz20_4 := blk_frozen BK405.out 4
              go_wp2_with (first | ((with_reducible refine gate_callee (f := 26) rfl ?_); refine goesL_ (some 24) rfl rfl Try.func26 (by kernel_rfl) rfl #[.agg #[.bool a0_0, .int .u8 a0_1, .int .u32 a0_2, .int .u16 a0_3, .string a0_4], .int .u8 a1] rfl (by (try simp only [List.map_toArray, List.map_cons, List.map_nil]); first | done | rfl | (simp only [List.length_drop, List.length_take]; rfl)) ?_; (with_reducible refine (ccm_Close.calls kj3 a0_0 a0_1 a0_2 a0_3 a0_4 a1 t407 t408 _ A12.out).mono ?_); rintro e w21 ⟨rfl, hb⟩; refine ⟨_, rfl, ?_⟩; have n0_ := Aside0.mk (blk_below (g := gb405) (o := .cells #[.bool a0_0, .int .u8 a0_1, .int .u32 a0_2, .int .u16 a0_3, .string a0_4] 55 (0, 0)) (by (with_reducible repeat (first | refine blk_drewN ?_ _ | refine blk_drew ?_ | refine blk_alloc ?_ _)); exact BK405.out) hb); have n1_ := Aside0.mk (below_step (by repeat (first | (with_reducible first | exact HB.out | apply below_alloc | apply pw_below_drewN | apply below_drew1 | refine below_set ?_ GE405.out) | exact HB.out)) hb); clear BK405; clear HB; have BK405 := n0_; have HB := n1_; clear n0_ n1_; (try clear hb); (try clear hb2); (try clear hk); (try clear hi); have hcz22_0 : w21.cell? ⟨gb405, 0, none⟩ = some (.bool a0_0) := (blk_cell BK405.out 0).trans rfl; have hcz22_1 : w21.cell? ⟨gb405, 1, none⟩ = some (.int .u8 a0_1) := (blk_cell BK405.out 1).trans rfl; have hcz22_2 : w21.cell? ⟨gb405, 2, none⟩ = some (.int .u32 a0_2) := (blk_cell BK405.out 2).trans rfl; have hcz22_3 : w21.cell? ⟨gb405, 3, none⟩ = some (.int .u16 a0_3) := (blk_cell BK405.out 3).trans rfl; have hcz22_4 : w21.cell? ⟨gb405, 4, none⟩ = some (.string a0_4) := (blk_cell BK405.out 4).trans rfl; have hfz22_0 := blk_frozen BK405.out 0; have hfz22_1 := blk_frozen BK405.out 1; have hfz22_2 := blk_frozen BK405.out 2; have hfz22_3 := blk_frozen BK405.out 3; have hfz22_4 := blk_frozen BK405.out 4) | ((with_reducible refine gate_callee (f := 27) rfl ?_); refine goesL_ (some 30) rfl rfl Try.func27 (by kernel_rfl) rfl #[.agg #[.bool a0_0, .int .u8 a0_1, .int .u32 a0_2, .int .u16 a0_3, .string a0_4], .int .u8 a1] rfl (by (try simp only [List.map_toArray, List.map_cons, List.map_nil]); first | done | rfl | (simp only [List.length_drop, List.length_take]; rfl)) ?_; (with_reducible refine (carouselref06_Close.calls kj3 a0_0 a0_1 a0_2 a0_3 a0_4 a1 t409 t410 _ A13.out).mono ?_); rintro e w23 ⟨rfl, hb⟩; refine ⟨_, rfl, ?_⟩; have n0_ := Aside0.mk (blk_below (g := gb405) (o := .cells #[.bool a0_0, .int .u8 a0_1, .int .u32 a0_2, .int .u16 a0_3, .string a0_4] 55 (0, 0)) (by (with_reducible repeat (first | refine blk_drewN ?_ _ | refine blk_drew ?_ | refine blk_alloc ?_ _)); exact BK405.out) hb); have n1_ := Aside0.mk (below_step (by repeat (first | (with_reducible first | exact HB.out | apply below_alloc | apply pw_below_drewN | apply below_drew1 | refine below_set ?_ GE405.out) | exact HB.out)) hb); clear BK405; clear HB; have BK405 := n0_; have HB := n1_; clear n0_ n1_; (try clear hb); (try clear hb2); (try clear hk); (try clear hi)) | ((with_reducible refine gate_callee (f := 25) rfl ?_); refine goesL_ (some 33) rfl rfl Try.func25 (by kernel_rfl) rfl #[] rfl (by (try simp only [List.map_toArray, List.map_cons, List.map_nil]); first | done | rfl | (simp only [List.length_drop, List.length_take]; rfl)) ?_; (with_reducible refine (carousellaw06_Awake.calls kj3  true _ A14.out).mono ?_); rintro e w24 ⟨rfl, hb⟩; refine ⟨_, rfl, ?_⟩; have n0_ := Aside0.mk (blk_below (g := gb405) (o := .cells #[.bool a0_0, .int .u8 a0_1, .int .u32 a0_2, .int .u16 a0_3, .string a0_4] 55 (0, 0)) (by (with_reducible repeat (first | refine blk_drewN ?_ _ | refine blk_drew ?_ | refine blk_alloc ?_ _)); exact BK405.out) hb); have n1_ := Aside0.mk (below_step (by repeat (first | (with_reducible first | exact HB.out | apply below_alloc | apply pw_below_drewN | apply below_drew1 | refine below_set ?_ GE405.out) | exact HB.out)) hb); clear BK405; clear HB; have BK405 := n0_; have HB := n1_; clear n0_ n1_; (try clear hb); (try clear hb2); (try clear hk); (try clear hi)) | (go_at_call 28; (with_reducible refine (ccm_Name.calls a2 t412 _ A18.out).mono ?_); rintro e w25 ⟨rfl, hb⟩; have n0_ := Aside0.mk (blk_below (g := gb405) (o := .cells #[.bool a0_0, .int .u8 a0_1, .int .u32 a0_2, .int .u16 a0_3, .string a0_4] 55 (0, 0)) (by (with_reducible repeat (first | refine blk_drewN ?_ _ | refine blk_drew ?_ | refine blk_alloc ?_ _)); exact BK405.out) hb); have n1_ := Aside0.mk (below_step (by repeat (first | (with_reducible first | exact HB.out | apply below_alloc | apply pw_below_drewN | apply below_drew1 | refine below_set ?_ GE405.out) | exact HB.out)) hb); clear BK405; clear HB; have BK405 := n0_; have HB := n1_; clear n0_ n1_; (try clear hb); (try clear hb2); (try clear hk); (try clear hi)) | (go_at_call 29; (with_reducible refine (carouselref06_Name.calls kj3 a2 t413 _ A19.out).mono ?_); rintro e w26 ⟨rfl, hb⟩; have n0_ := Aside0.mk (blk_below (g := gb405) (o := .cells #[.bool a0_0, .int .u8 a0_1, .int .u32 a0_2, .int .u16 a0_3, .string a0_4] 55 (0, 0)) (by (with_reducible repeat (first | refine blk_drewN ?_ _ | refine blk_drew ?_ | refine blk_alloc ?_ _)); exact BK405.out) hb); have n1_ := Aside0.mk (below_step (by repeat (first | (with_reducible first | exact HB.out | apply below_alloc | apply pw_below_drewN | apply below_drew1 | refine below_set ?_ GE405.out) | exact HB.out)) hb); clear BK405; clear HB; have BK405 := n0_; have HB := n1_; clear n0_ n1_; (try clear hb); (try clear hb2); (try clear hk); (try clear hi)))
              go_ret
              exact ⟨by first | rfl | (simp [errW_none, errW_some] <;> rfl) | (simp [*, errW_none, errW_some] <;> rfl), by repeat (first | (with_reducible first | exact HB.out | apply below_alloc | apply pw_below_drewN | apply below_drew1 | refine below_set ?_ GE405.out) | exact HB.out)⟩
            · rw [if_neg c17] at H
              have c17b0 : (t408 == t410) = false := beq_eq_false_iff_ne.mpr c17
              have c17b1 : (t408 != t410) = true := bne_iff_ne.mpr c17
              obtain rfl := Option.some.inj H
              have hcz27_0 : wc.cell? ⟨gb405, 0, none⟩ = some (.bool a0_0) := (blk_cell BK405.out 0).trans rfl
              have hcz27_1 : wc.cell? ⟨gb405, 1, none⟩ = some (.int .u8 a0_1) := (blk_cell BK405.out 1).trans rfl
              have hcz27_2 : wc.cell? ⟨gb405, 2, none⟩ = some (.int .u32 a0_2) := (blk_cell BK405.out 2).trans rfl
              have hcz27_3 : wc.cell? ⟨gb405, 3, none⟩ = some (.int .u16 a0_3) := (blk_cell BK405.out 3).trans rfl
              have hcz27_4 : wc.cell? ⟨gb405, 4, none⟩ = some (.string a0_4) := (blk_cell BK405.out 4).trans rfl
              have hfz27_0 := blk_frozen BK405.out 0
              have hfz27_1 := blk_frozen BK405.out 1
              have hfz27_2 := blk_frozen BK405.out 2
              have hfz27_3 := blk_frozen BK405.out 3
              have hfz27_4 := blk_frozen BK405.out 4
              go_wp2_with (first | ((with_reducible refine gate_callee (f := 26) rfl ?_); refine goesL_ (some 24) rfl rfl Try.func26 (by kernel_rfl) rfl #[.agg #[.bool a0_0, .int .u8 a0_1, .int .u32 a0_2, .int .u16 a0_3, .string a0_4], .int .u8 a1] rfl (by (try simp only [List.map_toArray, List.map_cons, List.map_nil]); first | done | rfl | (simp only [List.length_drop, List.length_take]; rfl)) ?_; (with_reducible refine (ccm_Close.calls kj3 a0_0 a0_1 a0_2 a0_3 a0_4 a1 t407 t408 _ A12.out).mono ?_); rintro e w28 ⟨rfl, hb⟩; refine ⟨_, rfl, ?_⟩; have n0_ := Aside0.mk (blk_below (g := gb405) (o := .cells #[.bool a0_0, .int .u8 a0_1, .int .u32 a0_2, .int .u16 a0_3, .string a0_4] 55 (0, 0)) (by (with_reducible repeat (first | refine blk_drewN ?_ _ | refine blk_drew ?_ | refine blk_alloc ?_ _)); exact BK405.out) hb); have n1_ := Aside0.mk (below_step (by repeat (first | (with_reducible first | exact HB.out | apply below_alloc | apply pw_below_drewN | apply below_drew1 | refine below_set ?_ GE405.out) | exact HB.out)) hb); clear BK405; clear HB; have BK405 := n0_; have HB := n1_; clear n0_ n1_; (try clear hb); (try clear hb2); (try clear hk); (try clear hi); have hcz29_0 : w28.cell? ⟨gb405, 0, none⟩ = some (.bool a0_0) := (blk_cell BK405.out 0).trans rfl; have hcz29_1 : w28.cell? ⟨gb405, 1, none⟩ = some (.int .u8 a0_1) := (blk_cell BK405.out 1).trans rfl; have hcz29_2 : w28.cell? ⟨gb405, 2, none⟩ = some (.int .u32 a0_2) := (blk_cell BK405.out 2).trans rfl; have hcz29_3 : w28.cell? ⟨gb405, 3, none⟩ = some (.int .u16 a0_3) := (blk_cell BK405.out 3).trans rfl; have hcz29_4 : w28.cell? ⟨gb405, 4, none⟩ = some (.string a0_4) := (blk_cell BK405.out 4).trans rfl; have hfz29_0 := blk_frozen BK405.out 0; have hfz29_1 := blk_frozen BK405.out 1; have hfz29_2 := blk_frozen BK405.out 2; have hfz29_3 := blk_frozen BK405.out 3; have hfz29_4 := blk_frozen BK405.out 4) | ((with_reducible refine gate_callee (f := 27) rfl ?_); refine goesL_ (some 30) rfl rfl Try.func27 (by kernel_rfl) rfl #[.agg #[.bool a0_0, .int .u8 a0_1, .int .u32 a0_2, .int .u16 a0_3, .string a0_4], .int .u8 a1] rfl (by (try simp only [List.map_toArray, List.map_cons, List.map_nil]); first | done | rfl | (simp only [List.length_drop, List.length_take]; rfl)) ?_; (with_reducible refine (carouselref06_Close.calls kj3 a0_0 a0_1 a0_2 a0_3 a0_4 a1 t409 t410 _ A13.out).mono ?_); rintro e w30 ⟨rfl, hb⟩; refine ⟨_, rfl, ?_⟩; have n0_ := Aside0.mk (blk_below (g := gb405) (o := .cells #[.bool a0_0, .int .u8 a0_1, .int .u32 a0_2, .int .u16 a0_3, .string a0_4] 55 (0, 0)) (by (with_reducible repeat (first | refine blk_drewN ?_ _ | refine blk_drew ?_ | refine blk_alloc ?_ _)); exact BK405.out) hb); have n1_ := Aside0.mk (below_step (by repeat (first | (with_reducible first | exact HB.out | apply below_alloc | apply pw_below_drewN | apply below_drew1 | refine below_set ?_ GE405.out) | exact HB.out)) hb); clear BK405; clear HB; have BK405 := n0_; have HB := n1_; clear n0_ n1_; (try clear hb); (try clear hb2); (try clear hk); (try clear hi)) | ((with_reducible refine gate_callee (f := 25) rfl ?_); refine goesL_ (some 33) rfl rfl Try.func25 (by kernel_rfl) rfl #[] rfl (by (try simp only [List.map_toArray, List.map_cons, List.map_nil]); first | done | rfl | (simp only [List.length_drop, List.length_take]; rfl)) ?_; (with_reducible refine (carousellaw06_Awake.calls kj3  true _ A14.out).mono ?_); rintro e w31 ⟨rfl, hb⟩; refine ⟨_, rfl, ?_⟩; have n0_ := Aside0.mk (blk_below (g := gb405) (o := .cells #[.bool a0_0, .int .u8 a0_1, .int .u32 a0_2, .int .u16 a0_3, .string a0_4] 55 (0, 0)) (by (with_reducible repeat (first | refine blk_drewN ?_ _ | refine blk_drew ?_ | refine blk_alloc ?_ _)); exact BK405.out) hb); have n1_ := Aside0.mk (below_step (by repeat (first | (with_reducible first | exact HB.out | apply below_alloc | apply pw_below_drewN | apply below_drew1 | refine below_set ?_ GE405.out) | exact HB.out)) hb); clear BK405; clear HB; have BK405 := n0_; have HB := n1_; clear n0_ n1_; (try clear hb); (try clear hb2); (try clear hk); (try clear hi)))
              go_ret
              exact ⟨by first | rfl | (simp [errW_none, errW_some] <;> rfl) | (simp [*, errW_none, errW_some] <;> rfl), by repeat (first | (with_reducible first | exact HB.out | apply below_alloc | apply pw_below_drewN | apply below_drew1 | refine below_set ?_ GE405.out) | exact HB.out)⟩
          · rw [if_neg c16] at H
            have c16b0 : (t407.toList == t409.toList) = false := beq_eq_false_iff_ne.mpr c16
            have c16b1 : (t407.toList != t409.toList) = true := bne_iff_ne.mpr c16
            obtain rfl := Option.some.inj H
            have hcz32_0 : wc.cell? ⟨gb405, 0, none⟩ = some (.bool a0_0) := (blk_cell BK405.out 0).trans rfl
            have hcz32_1 : wc.cell? ⟨gb405, 1, none⟩ = some (.int .u8 a0_1) := (blk_cell BK405.out 1).trans rfl
            have hcz32_2 : wc.cell? ⟨gb405, 2, none⟩ = some (.int .u32 a0_2) := (blk_cell BK405.out 2).trans rfl
            have hcz32_3 : wc.cell? ⟨gb405, 3, none⟩ = some (.int .u16 a0_3) := (blk_cell BK405.out 3).trans rfl
            have hcz32_4 : wc.cell? ⟨gb405, 4, none⟩ = some (.string a0_4) := (blk_cell BK405.out 4).trans rfl
            have hfz32_0 := blk_frozen BK405.out 0
            have hfz32_1 := blk_frozen BK405.out 1
            have hfz32_2 := blk_frozen BK405.out 2
            have hfz32_3 := blk_frozen BK405.out 3
            have hfz32_4 := blk_frozen BK405.out 4
            go_wp2_with (first | ((with_reducible refine gate_callee (f := 26) rfl ?_); refine goesL_ (some 24) rfl rfl Try.func26 (by kernel_rfl) rfl #[.agg #[.bool a0_0, .int .u8 a0_1, .int .u32 a0_2, .int .u16 a0_3, .string a0_4], .int .u8 a1] rfl (by (try simp only [List.map_toArray, List.map_cons, List.map_nil]); first | done | rfl | (simp only [List.length_drop, List.length_take]; rfl)) ?_; (with_reducible refine (ccm_Close.calls kj3 a0_0 a0_1 a0_2 a0_3 a0_4 a1 t407 t408 _ A12.out).mono ?_); rintro e w33 ⟨rfl, hb⟩; refine ⟨_, rfl, ?_⟩; have n0_ := Aside0.mk (blk_below (g := gb405) (o := .cells #[.bool a0_0, .int .u8 a0_1, .int .u32 a0_2, .int .u16 a0_3, .string a0_4] 55 (0, 0)) (by (with_reducible repeat (first | refine blk_drewN ?_ _ | refine blk_drew ?_ | refine blk_alloc ?_ _)); exact BK405.out) hb); have n1_ := Aside0.mk (below_step (by repeat (first | (with_reducible first | exact HB.out | apply below_alloc | apply pw_below_drewN | apply below_drew1 | refine below_set ?_ GE405.out) | exact HB.out)) hb); clear BK405; clear HB; have BK405 := n0_; have HB := n1_; clear n0_ n1_; (try clear hb); (try clear hb2); (try clear hk); (try clear hi); have hcz34_0 : w33.cell? ⟨gb405, 0, none⟩ = some (.bool a0_0) := (blk_cell BK405.out 0).trans rfl; have hcz34_1 : w33.cell? ⟨gb405, 1, none⟩ = some (.int .u8 a0_1) := (blk_cell BK405.out 1).trans rfl; have hcz34_2 : w33.cell? ⟨gb405, 2, none⟩ = some (.int .u32 a0_2) := (blk_cell BK405.out 2).trans rfl; have hcz34_3 : w33.cell? ⟨gb405, 3, none⟩ = some (.int .u16 a0_3) := (blk_cell BK405.out 3).trans rfl; have hcz34_4 : w33.cell? ⟨gb405, 4, none⟩ = some (.string a0_4) := (blk_cell BK405.out 4).trans rfl; have hfz34_0 := blk_frozen BK405.out 0; have hfz34_1 := blk_frozen BK405.out 1; have hfz34_2 := blk_frozen BK405.out 2; have hfz34_3 := blk_frozen BK405.out 3; have hfz34_4 := blk_frozen BK405.out 4) | ((with_reducible refine gate_callee (f := 27) rfl ?_); refine goesL_ (some 30) rfl rfl Try.func27 (by kernel_rfl) rfl #[.agg #[.bool a0_0, .int .u8 a0_1, .int .u32 a0_2, .int .u16 a0_3, .string a0_4], .int .u8 a1] rfl (by (try simp only [List.map_toArray, List.map_cons, List.map_nil]); first | done | rfl | (simp only [List.length_drop, List.length_take]; rfl)) ?_; (with_reducible refine (carouselref06_Close.calls kj3 a0_0 a0_1 a0_2 a0_3 a0_4 a1 t409 t410 _ A13.out).mono ?_); rintro e w35 ⟨rfl, hb⟩; refine ⟨_, rfl, ?_⟩; have n0_ := Aside0.mk (blk_below (g := gb405) (o := .cells #[.bool a0_0, .int .u8 a0_1, .int .u32 a0_2, .int .u16 a0_3, .string a0_4] 55 (0, 0)) (by (with_reducible repeat (first | refine blk_drewN ?_ _ | refine blk_drew ?_ | refine blk_alloc ?_ _)); exact BK405.out) hb); have n1_ := Aside0.mk (below_step (by repeat (first | (with_reducible first | exact HB.out | apply below_alloc | apply pw_below_drewN | apply below_drew1 | refine below_set ?_ GE405.out) | exact HB.out)) hb); clear BK405; clear HB; have BK405 := n0_; have HB := n1_; clear n0_ n1_; (try clear hb); (try clear hb2); (try clear hk); (try clear hi)) | ((with_reducible refine gate_callee (f := 25) rfl ?_); refine goesL_ (some 33) rfl rfl Try.func25 (by kernel_rfl) rfl #[] rfl (by (try simp only [List.map_toArray, List.map_cons, List.map_nil]); first | done | rfl | (simp only [List.length_drop, List.length_take]; rfl)) ?_; (with_reducible refine (carousellaw06_Awake.calls kj3  true _ A14.out).mono ?_); rintro e w36 ⟨rfl, hb⟩; refine ⟨_, rfl, ?_⟩; have n0_ := Aside0.mk (blk_below (g := gb405) (o := .cells #[.bool a0_0, .int .u8 a0_1, .int .u32 a0_2, .int .u16 a0_3, .string a0_4] 55 (0, 0)) (by (with_reducible repeat (first | refine blk_drewN ?_ _ | refine blk_drew ?_ | refine blk_alloc ?_ _)); exact BK405.out) hb); have n1_ := Aside0.mk (below_step (by repeat (first | (with_reducible first | exact HB.out | apply below_alloc | apply pw_below_drewN | apply below_drew1 | refine below_set ?_ GE405.out) | exact HB.out)) hb); clear BK405; clear HB; have BK405 := n0_; have HB := n1_; clear n0_ n1_; (try clear hb); (try clear hb2); (try clear hk); (try clear hi)))
            go_ret
            exact ⟨by first | rfl | (simp [errW_none, errW_some] <;> rfl) | (simp [*, errW_none, errW_some] <;> rfl), by repeat (first | (with_reducible first | exact HB.out | apply below_alloc | apply pw_below_drewN | apply below_drew1 | refine below_set ?_ GE405.out) | exact HB.out)⟩
        · replace c15 := Bool.eq_false_iff.mpr c15
          subst c15
          have H1 : (some false) = some r := by rw [if_neg (show ¬ (false = true) by decide)] at H; exact H
          clear H
          have H := H1
          clear H1
          obtain rfl := Option.some.inj H
          have hcz37_0 : wc.cell? ⟨gb405, 0, none⟩ = some (.bool a0_0) := (blk_cell BK405.out 0).trans rfl
          have hcz37_1 : wc.cell? ⟨gb405, 1, none⟩ = some (.int .u8 a0_1) := (blk_cell BK405.out 1).trans rfl
          have hcz37_2 : wc.cell? ⟨gb405, 2, none⟩ = some (.int .u32 a0_2) := (blk_cell BK405.out 2).trans rfl
          have hcz37_3 : wc.cell? ⟨gb405, 3, none⟩ = some (.int .u16 a0_3) := (blk_cell BK405.out 3).trans rfl
          have hcz37_4 : wc.cell? ⟨gb405, 4, none⟩ = some (.string a0_4) := (blk_cell BK405.out 4).trans rfl
          have hfz37_0 := blk_frozen BK405.out 0
          have hfz37_1 := blk_frozen BK405.out 1
          have hfz37_2 := blk_frozen BK405.out 2
          have hfz37_3 := blk_frozen BK405.out 3
          have hfz37_4 := blk_frozen BK405.out 4
          go_wp2_with (first | ((with_reducible refine gate_callee (f := 26) rfl ?_); refine goesL_ (some 24) rfl rfl Try.func26 (by kernel_rfl) rfl #[.agg #[.bool a0_0, .int .u8 a0_1, .int .u32 a0_2, .int .u16 a0_3, .string a0_4], .int .u8 a1] rfl (by (try simp only [List.map_toArray, List.map_cons, List.map_nil]); first | done | rfl | (simp only [List.length_drop, List.length_take]; rfl)) ?_; (with_reducible refine (ccm_Close.calls kj3 a0_0 a0_1 a0_2 a0_3 a0_4 a1 t407 t408 _ A12.out).mono ?_); rintro e w38 ⟨rfl, hb⟩; refine ⟨_, rfl, ?_⟩; have n0_ := Aside0.mk (blk_below (g := gb405) (o := .cells #[.bool a0_0, .int .u8 a0_1, .int .u32 a0_2, .int .u16 a0_3, .string a0_4] 55 (0, 0)) (by (with_reducible repeat (first | refine blk_drewN ?_ _ | refine blk_drew ?_ | refine blk_alloc ?_ _)); exact BK405.out) hb); have n1_ := Aside0.mk (below_step (by repeat (first | (with_reducible first | exact HB.out | apply below_alloc | apply pw_below_drewN | apply below_drew1 | refine below_set ?_ GE405.out) | exact HB.out)) hb); clear BK405; clear HB; have BK405 := n0_; have HB := n1_; clear n0_ n1_; (try clear hb); (try clear hb2); (try clear hk); (try clear hi); have hcz39_0 : w38.cell? ⟨gb405, 0, none⟩ = some (.bool a0_0) := (blk_cell BK405.out 0).trans rfl; have hcz39_1 : w38.cell? ⟨gb405, 1, none⟩ = some (.int .u8 a0_1) := (blk_cell BK405.out 1).trans rfl; have hcz39_2 : w38.cell? ⟨gb405, 2, none⟩ = some (.int .u32 a0_2) := (blk_cell BK405.out 2).trans rfl; have hcz39_3 : w38.cell? ⟨gb405, 3, none⟩ = some (.int .u16 a0_3) := (blk_cell BK405.out 3).trans rfl; have hcz39_4 : w38.cell? ⟨gb405, 4, none⟩ = some (.string a0_4) := (blk_cell BK405.out 4).trans rfl; have hfz39_0 := blk_frozen BK405.out 0; have hfz39_1 := blk_frozen BK405.out 1; have hfz39_2 := blk_frozen BK405.out 2; have hfz39_3 := blk_frozen BK405.out 3; have hfz39_4 := blk_frozen BK405.out 4) | ((with_reducible refine gate_callee (f := 27) rfl ?_); refine goesL_ (some 30) rfl rfl Try.func27 (by kernel_rfl) rfl #[.agg #[.bool a0_0, .int .u8 a0_1, .int .u32 a0_2, .int .u16 a0_3, .string a0_4], .int .u8 a1] rfl (by (try simp only [List.map_toArray, List.map_cons, List.map_nil]); first | done | rfl | (simp only [List.length_drop, List.length_take]; rfl)) ?_; (with_reducible refine (carouselref06_Close.calls kj3 a0_0 a0_1 a0_2 a0_3 a0_4 a1 t409 t410 _ A13.out).mono ?_); rintro e w40 ⟨rfl, hb⟩; refine ⟨_, rfl, ?_⟩; have n0_ := Aside0.mk (blk_below (g := gb405) (o := .cells #[.bool a0_0, .int .u8 a0_1, .int .u32 a0_2, .int .u16 a0_3, .string a0_4] 55 (0, 0)) (by (with_reducible repeat (first | refine blk_drewN ?_ _ | refine blk_drew ?_ | refine blk_alloc ?_ _)); exact BK405.out) hb); have n1_ := Aside0.mk (below_step (by repeat (first | (with_reducible first | exact HB.out | apply below_alloc | apply pw_below_drewN | apply below_drew1 | refine below_set ?_ GE405.out) | exact HB.out)) hb); clear BK405; clear HB; have BK405 := n0_; have HB := n1_; clear n0_ n1_; (try clear hb); (try clear hb2); (try clear hk); (try clear hi)) | ((with_reducible refine gate_callee (f := 25) rfl ?_); refine goesL_ (some 33) rfl rfl Try.func25 (by kernel_rfl) rfl #[] rfl (by (try simp only [List.map_toArray, List.map_cons, List.map_nil]); first | done | rfl | (simp only [List.length_drop, List.length_take]; rfl)) ?_; (with_reducible refine (carousellaw06_Awake.calls kj3  false _ A14.out).mono ?_); rintro e w41 ⟨rfl, hb⟩; refine ⟨_, rfl, ?_⟩; have n0_ := Aside0.mk (blk_below (g := gb405) (o := .cells #[.bool a0_0, .int .u8 a0_1, .int .u32 a0_2, .int .u16 a0_3, .string a0_4] 55 (0, 0)) (by (with_reducible repeat (first | refine blk_drewN ?_ _ | refine blk_drew ?_ | refine blk_alloc ?_ _)); exact BK405.out) hb); have n1_ := Aside0.mk (below_step (by repeat (first | (with_reducible first | exact HB.out | apply below_alloc | apply pw_below_drewN | apply below_drew1 | refine below_set ?_ GE405.out) | exact HB.out)) hb); clear BK405; clear HB; have BK405 := n0_; have HB := n1_; clear n0_ n1_; (try clear hb); (try clear hb2); (try clear hk); (try clear hi)))
          go_ret
          exact ⟨by first | rfl | (simp [errW_none, errW_some] <;> rfl) | (simp [*, errW_none, errW_some] <;> rfl), by repeat (first | (with_reducible first | exact HB.out | apply below_alloc | apply pw_below_drewN | apply below_drew1 | refine below_set ?_ GE405.out) | exact HB.out)⟩

/-- THE ONE PURE STATEMENT of carousellaw06_CcmCloses: yours. -/
def carousellaw06_CcmCloses.Pure : Prop := ∀ (a0_0 : Bool) (a0_1 : Int) (a0_2 : Int) (a0_3 : Int) (a0_4 : ByteArray) (a1 : Int) (a2 : ByteArray), (Lit.int .u8 a0_1).wf = true → (Lit.int .u32 a0_2).wf = true → (Lit.int .u16 a0_3).wf = true → a0_4.size ≤ 9223372036854775807 → (Lit.int .u8 a1).wf = true → a2.size ≤ 140737488351232 → ∃ k, carousellaw06_CcmCloses.f k a0_0 a0_1 a0_2 a0_3 a0_4 a1 a2 = some true
theorem carousellaw06_CcmCloses.walk (P : carousellaw06_CcmCloses.Pure) (a0_0 : Bool) (a0_1 : Int) (a0_2 : Int) (a0_3 : Int) (a0_4 : ByteArray) (a1 : Int) (a2 : ByteArray) (w : World) (w0_0 : (Lit.int .u8 a0_1).wf = true) (w0_1 : (Lit.int .u32 a0_2).wf = true) (w0_2 : (Lit.int .u16 a0_3).wf = true) (w0_3 : a0_4.size ≤ 9223372036854775807) (w1_0 : (Lit.int .u8 a1).wf = true) (w2_0 : a2.size ≤ 140737488351232) :
    Calls Try.prog 7 #[.agg #[.bool a0_0, .int .u8 a0_1, .int .u32 a0_2, .int .u16 a0_3, .string a0_4], .int .u8 a1, .string a2] w fun e w' => e = .returned (.bool true) ∧ Below w.heap.size w w' := by
  obtain ⟨k, h⟩ := P a0_0 a0_1 a0_2 a0_3 a0_4 a1 a2 w0_0 w0_1 w0_2 w0_3 w1_0 w2_0
  refine (carousellaw06_CcmCloses.calls k a0_0 a0_1 a0_2 a0_3 a0_4 a1 a2 true w h).mono ?_
  rintro e w' ⟨rfl, hd⟩
  exact ⟨rfl, hd⟩

end Go.Proofs.Ytmdaaphjndjakaf.PAll
