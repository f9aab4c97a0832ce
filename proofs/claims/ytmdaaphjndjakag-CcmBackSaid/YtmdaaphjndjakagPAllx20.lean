-- Written by a program of this work, after the translation.
import Derived.Test.YtmdaaphjndjakagPAllx0
import Derived.Test.YtmdaaphjndjakagPAllx1
import Derived.Test.YtmdaaphjndjakagPAllx6
import Derived.Test.YtmdaaphjndjakagPAllx7
import Derived.Test.YtmdaaphjndjakagPAllx13
namespace Go.Proofs.Ytmdaaphjndjakag.PAll
open Go.RowKit Go.Proofs.YtmdaaphjndjakagW.PrintWords Go.Proofs.YtmdaaphjndjakagW.PrintLast Go.Proofs.YtmdaaphjndjakagW.PrintMore
attribute [local go_sem] max2_int min2_int max_two min_two max_three min_three max_four min_four   -- for this text's walks alone
set_option linter.unusedVariables false
set_option linter.unusedSimpArgs false

attribute [local go_sem high] eqA26
/-! ### carousellaw06_CcmBack: function 4 -/
mutual
def carousellaw06_CcmBack.j0 : Nat → Int → ByteArray → Bool → Bool → Int → Int → Int → ByteArray → Option (Bool)
  | 0, _, _, _, _, _, _, _, _ => none
  | k + 1, x1, x2, x22, x229000, x229001, x229002, x229003, x229004 => if x22 = true then ((carousellaw06_Awake.f k).bind fun t229 => (some t229)) else ((ccm_Close.f k x229000 x229001 x229002 x229003 x229004 x1).bind fun bt230 => (if bt230.2 = 0 then ((ccm_Open.f k bt230.1 x1).bind fun bt232 => (if bt232.2.2.2.2.2 = 0 then (if (!(bt232.1 == x229000) || (!(bt232.2.1 == x229001) || (!(bt232.2.2.1 == x229002) || (!(bt232.2.2.2.1 == x229003) || (!(bt232.2.2.2.2.1.toList == x229004.toList)))))) = true then (some false) else (carousellaw06_CcmBack.j1 k x1 x2)) else (some false))) else (carousellaw06_CcmBack.j1 k x1 x2)))
def carousellaw06_CcmBack.j1 : Nat → Int → ByteArray → Option (Bool)
  | 0, _, _ => none
  | k + 1, x1, x2 => (ccm_Open.f k x2 x1).bind fun bt239 => (if bt239.2.2.2.2.2 = 0 then (carousellaw06_CcmBack.j2 k x1 x2 bt239.2.2.2.2.2 ((x2.size : Int) != 75) bt239.1 bt239.2.1 bt239.2.2.1 bt239.2.2.2.1 bt239.2.2.2.2.1) else (carousellaw06_CcmBack.j2 k x1 x2 bt239.2.2.2.2.2 true bt239.1 bt239.2.1 bt239.2.2.1 bt239.2.2.2.1 bt239.2.2.2.2.1))
def carousellaw06_CcmBack.j2 : Nat → Int → ByteArray → Int → Bool → Bool → Int → Int → Int → ByteArray → Option (Bool)
  | 0, _, _, _, _, _, _, _, _, _ => none
  | k + 1, x1, x2, x12, x57, x246000, x246001, x246002, x246003, x246004 => if x57 = true then ((carousellaw06_Awake.f k).bind fun t246 => (if t246 = true then (if x12 = 0 then (some true) else (some (!x246000 && (x246001 == 0 && (x246002 == 0 && (x246003 == 0 && (x246004.toList == ([] : List UInt8)))))))) else (some false))) else ((ccm_Close.f k x246000 x246001 x246002 x246003 x246004 x1).bind fun bt247 => ((carousellaw06_Awake.f k).bind fun t249 => (if t249 = true then (if bt247.2 = 0 then (some (bt247.1.toList == x2.toList)) else (some false)) else (some false))))
end
def carousellaw06_CcmBack.f (k : Nat) (a0_0 : Bool) (a0_1 : Int) (a0_2 : Int) (a0_3 : Int) (a0_4 : ByteArray) (a1 : Int) (a2 : ByteArray) : Option (Bool) := if (a0_4.size : Int) > 200 then (carousellaw06_CcmBack.j0 k a1 a2 true a0_0 a0_1 a0_2 a0_3 a0_4) else (carousellaw06_CcmBack.j0 k a1 a2 (decide ((a2.size : Int) > 600)) a0_0 a0_1 a0_2 a0_3 a0_4)
theorem carousellaw06_CcmBack.mono_l : ∀ k, (∀ y0 y1 y2 y3 y4 y5 y6 y7, LeO (carousellaw06_CcmBack.j0 k y0 y1 y2 y3 y4 y5 y6 y7) (carousellaw06_CcmBack.j0 (k + 1) y0 y1 y2 y3 y4 y5 y6 y7)) ∧ (∀ y0 y1, LeO (carousellaw06_CcmBack.j1 k y0 y1) (carousellaw06_CcmBack.j1 (k + 1) y0 y1)) ∧ (∀ y0 y1 y2 y3 y4 y5 y6 y7 y8, LeO (carousellaw06_CcmBack.j2 k y0 y1 y2 y3 y4 y5 y6 y7 y8) (carousellaw06_CcmBack.j2 (k + 1) y0 y1 y2 y3 y4 y5 y6 y7 y8))
  | 0 => ⟨fun _ _ _ _ _ _ _ _ r h => by simp [carousellaw06_CcmBack.j0] at h, fun _ _ r h => by simp [carousellaw06_CcmBack.j1] at h, fun _ _ _ _ _ _ _ _ _ r h => by simp [carousellaw06_CcmBack.j2] at h⟩
  | k + 1 => by
    obtain ⟨ih0, ih1, ih2⟩ := carousellaw06_CcmBack.mono_l k
    refine ⟨?_, ?_, ?_⟩
    · intro y0 y1 y2 y3 y4 y5 y6 y7
      unfold carousellaw06_CcmBack.j0
      repeat' first
      | (with_reducible exact ih0 _ _ _ _ _ _ _ _)
      | (with_reducible exact ih1 _ _)
      | (with_reducible exact ih2 _ _ _ _ _ _ _ _ _)
      | (with_reducible exact carousellaw06_Awake.mono _)
      | (with_reducible exact ccm_Close.mono _ _ _ _ _ _ _)
      | (with_reducible exact ccm_Open.mono _ _ _)
      | (with_reducible exact LeO.refl _)
      | (with_reducible exact LeO.none _)
      | (with_reducible refine LeO.ite ?_ ?_)
      | (with_reducible refine LeO.bind ?_ (fun _ => ?_))
      | exact ih0 _ _ _ _ _ _ _ _
      | exact ih1 _ _
      | exact ih2 _ _ _ _ _ _ _ _ _
      | exact carousellaw06_Awake.mono _
      | exact ccm_Close.mono _ _ _ _ _ _ _
      | exact ccm_Open.mono _ _ _
      | exact LeO.none _
      | refine LeO.ite ?_ ?_
      | refine LeO.bind ?_ (fun _ => ?_)
    · intro y0 y1
      unfold carousellaw06_CcmBack.j1
      repeat' first
      | (with_reducible exact ih0 _ _ _ _ _ _ _ _)
      | (with_reducible exact ih1 _ _)
      | (with_reducible exact ih2 _ _ _ _ _ _ _ _ _)
      | (with_reducible exact carousellaw06_Awake.mono _)
      | (with_reducible exact ccm_Close.mono _ _ _ _ _ _ _)
      | (with_reducible exact ccm_Open.mono _ _ _)
      | (with_reducible exact LeO.refl _)
      | (with_reducible exact LeO.none _)
      | (with_reducible refine LeO.ite ?_ ?_)
      | (with_reducible refine LeO.bind ?_ (fun _ => ?_))
      | exact ih0 _ _ _ _ _ _ _ _
      | exact ih1 _ _
      | exact ih2 _ _ _ _ _ _ _ _ _
      | exact carousellaw06_Awake.mono _
      | exact ccm_Close.mono _ _ _ _ _ _ _
      | exact ccm_Open.mono _ _ _
      | exact LeO.none _
      | refine LeO.ite ?_ ?_
      | refine LeO.bind ?_ (fun _ => ?_)
    · intro y0 y1 y2 y3 y4 y5 y6 y7 y8
      unfold carousellaw06_CcmBack.j2
      repeat' first
      | (with_reducible exact ih0 _ _ _ _ _ _ _ _)
      | (with_reducible exact ih1 _ _)
      | (with_reducible exact ih2 _ _ _ _ _ _ _ _ _)
      | (with_reducible exact carousellaw06_Awake.mono _)
      | (with_reducible exact ccm_Close.mono _ _ _ _ _ _ _)
      | (with_reducible exact ccm_Open.mono _ _ _)
      | (with_reducible exact LeO.refl _)
      | (with_reducible exact LeO.none _)
      | (with_reducible refine LeO.ite ?_ ?_)
      | (with_reducible refine LeO.bind ?_ (fun _ => ?_))
      | exact ih0 _ _ _ _ _ _ _ _
      | exact ih1 _ _
      | exact ih2 _ _ _ _ _ _ _ _ _
      | exact carousellaw06_Awake.mono _
      | exact ccm_Close.mono _ _ _ _ _ _ _
      | exact ccm_Open.mono _ _ _
      | exact LeO.none _
      | refine LeO.ite ?_ ?_
      | refine LeO.bind ?_ (fun _ => ?_)
theorem carousellaw06_CcmBack.mono : ∀ a0 a1 a2 a3 a4 a5 a6 k, LeO (carousellaw06_CcmBack.f k a0 a1 a2 a3 a4 a5 a6) (carousellaw06_CcmBack.f (k + 1) a0 a1 a2 a3 a4 a5 a6) := by
  intro a0 a1 a2 a3 a4 a5 a6 k
  obtain ⟨ih0, ih1, ih2⟩ := carousellaw06_CcmBack.mono_l k
  unfold carousellaw06_CcmBack.f
  repeat' first
      | (with_reducible exact ih0 _ _ _ _ _ _ _ _)
      | (with_reducible exact ih1 _ _)
      | (with_reducible exact ih2 _ _ _ _ _ _ _ _ _)
      | (with_reducible exact carousellaw06_Awake.mono _)
      | (with_reducible exact ccm_Close.mono _ _ _ _ _ _ _)
      | (with_reducible exact ccm_Open.mono _ _ _)
      | (with_reducible exact LeO.refl _)
      | (with_reducible exact LeO.none _)
      | (with_reducible refine LeO.ite ?_ ?_)
      | (with_reducible refine LeO.bind ?_ (fun _ => ?_))
      | exact ih0 _ _ _ _ _ _ _ _
      | exact ih1 _ _
      | exact ih2 _ _ _ _ _ _ _ _ _
      | exact carousellaw06_Awake.mono _
      | exact ccm_Close.mono _ _ _ _ _ _ _
      | exact ccm_Open.mono _ _ _
      | exact LeO.none _
      | refine LeO.ite ?_ ?_
      | refine LeO.bind ?_ (fun _ => ?_)
set_option maxHeartbeats 8000000 in
set_option maxRecDepth 100000 in
theorem carousellaw06_CcmBack.calls (k : Nat) (a0_0 : Bool) (a0_1 : Int) (a0_2 : Int) (a0_3 : Int) (a0_4 : ByteArray) (a1 : Int) (a2 : ByteArray) (r : Bool) (w : World) (h : carousellaw06_CcmBack.f k a0_0 a0_1 a0_2 a0_3 a0_4 a1 a2 = some r) (hT : r = true) :
    Calls Try.prog 4 #[.agg #[.bool a0_0, .int .u8 a0_1, .int .u32 a0_2, .int .u16 a0_3, .string a0_4], .int .u8 a1, .string a2] w fun e w' => e = .returned (.bool r) ∧ Below w.heap.size w w' := by
  have hu26 := Try.underlying26
  have HB := Aside0.mk (Below.refl w.heap.size w)
  have H : (if (a0_4.size : Int) > 200 then (carousellaw06_CcmBack.j0 k a1 a2 true a0_0 a0_1 a0_2 a0_3 a0_4) else (carousellaw06_CcmBack.j0 k a1 a2 (decide ((a2.size : Int) > 600)) a0_0 a0_1 a0_2 a0_3 a0_4)) = some r := h
  clear h
  have HC4 := Aside0.mk H
  clear H
  go_enter Try.func4, Try.ntmps4
  go_upto_region 1 with (first | ((with_reducible refine gate_dst (N := 3) rfl ?_); (try (refine gate_guard (by rfl) ?_; dsimp only)); refine box_event ?hg (N := 3) ?hd (cs := #[.bool a0_0, .int .u8 a0_1, .int .u32 a0_2, .int .u16 a0_3, .string a0_4]) (t := 26) ?hr ?_; (case hd => rfl); (case hg => rfl); (case hr => first | (go_simp; done) | (go_simp; rfl)); intro gb228 hg w5 hbox hb; have n0_ := Aside0.mk (below_step (by repeat (first | (with_reducible first | exact HB.out | apply below_alloc | apply pw_below_drewN | apply below_drew1) | exact HB.out)) hb); have n1_ := Aside0.mk (hbox); have n2_ := Aside0.mk ((by rw [hg]; exact (below_size (by repeat (first | (with_reducible first | exact HB.out | apply below_alloc | apply pw_below_drewN | apply below_drew1) | exact HB.out))) : w.heap.size ≤ gb228)); have n3_ := Aside0.mk ((by rw [hg]; exact (below_size (by repeat (first | (with_reducible first | exact HB.out | apply below_alloc | apply pw_below_drewN | apply below_drew1) | exact HB.out))) : w.heap.size ≤ gb228)); clear HB; have HB := n0_; have BK228 := n1_; have GW228 := n2_; have GE228 := n3_; clear n0_ n1_ n2_ n3_; clear hb hbox hg))
  (try simp only [Act.put, List.setIfInBounds_toArray, List.set_cons_zero, List.set_cons_succ])
  go_cut [22] (fun v22 wc => ∃ (kq : Nat) (x22_3 : Bool), v22 = .bool x22_3 ∧ Aside0 (carousellaw06_CcmBack.j0 kq a1 a2 x22_3 a0_0 a0_1 a0_2 a0_3 a0_4 = some r) ∧ Aside0 (kq ≤ k) ∧ Aside0 (wc.heap[gb228]? = some (.cells #[.bool a0_0, .int .u8 a0_1, .int .u32 a0_2, .int .u16 a0_3, .string a0_4] 26 (0, 0))) ∧ Aside0 (Below w.heap.size w wc))
  case first =>
    have H := HC4.out
    clear HC4
    by_cases c6 : (a0_4.size : Int) > 200
    · rw [if_pos c6] at H
      have c6b0 : decide (200 < (a0_4.size : Int)) = true := decide_eq_true c6
      have c6b1 : decide (200 < a0_4.size) = true := decide_eq_true (by omega)
      clear c6
      (first | rw [c6b0] | (simp only [i64_w, i32_w]; rw [c6b0]) | skip)
      have H' := Aside0.mk H
      clear H
      have hcz7_0 : w5.cell? ⟨gb228, 0, none⟩ = some (.bool a0_0) := (blk_cell BK228.out 0).trans rfl
      have hcz7_1 : w5.cell? ⟨gb228, 1, none⟩ = some (.int .u8 a0_1) := (blk_cell BK228.out 1).trans rfl
      have hcz7_2 : w5.cell? ⟨gb228, 2, none⟩ = some (.int .u32 a0_2) := (blk_cell BK228.out 2).trans rfl
      have hcz7_3 : w5.cell? ⟨gb228, 3, none⟩ = some (.int .u16 a0_3) := (blk_cell BK228.out 3).trans rfl
      have hcz7_4 : w5.cell? ⟨gb228, 4, none⟩ = some (.string a0_4) := (blk_cell BK228.out 4).trans rfl
      have hfz7_0 := blk_frozen BK228.out 0
      have hfz7_1 := blk_frozen BK228.out 1
      have hfz7_2 := blk_frozen BK228.out 2
      have hfz7_3 := blk_frozen BK228.out 3
      have hfz7_4 := blk_frozen BK228.out 4
      go_wp2
      go_meet
      case rel => exact ⟨_, (true), (by first | rfl | (simp; done) | (simp [*]; done)), H', ⟨by first | omega | exact Nat.le_refl _⟩, ⟨by (with_reducible repeat (first | refine blk_drewN ?_ _ | refine blk_drew ?_ | refine blk_alloc ?_ _)); exact BK228.out⟩, ⟨by repeat (first | (with_reducible first | exact HB.out | apply below_alloc | apply pw_below_drewN | apply below_drew1 | refine below_set ?_ GE228.out) | exact HB.out)⟩⟩
    · rw [if_neg c6] at H
      have c6b0 : decide (200 < (a0_4.size : Int)) = false := decide_eq_false c6
      have c6b1 : decide (200 < a0_4.size) = false := decide_eq_false (by omega)
      clear c6
      (first | rw [c6b0] | (simp only [i64_w, i32_w]; rw [c6b0]) | skip)
      have H' := Aside0.mk H
      clear H
      have hcz8_0 : w5.cell? ⟨gb228, 0, none⟩ = some (.bool a0_0) := (blk_cell BK228.out 0).trans rfl
      have hcz8_1 : w5.cell? ⟨gb228, 1, none⟩ = some (.int .u8 a0_1) := (blk_cell BK228.out 1).trans rfl
      have hcz8_2 : w5.cell? ⟨gb228, 2, none⟩ = some (.int .u32 a0_2) := (blk_cell BK228.out 2).trans rfl
      have hcz8_3 : w5.cell? ⟨gb228, 3, none⟩ = some (.int .u16 a0_3) := (blk_cell BK228.out 3).trans rfl
      have hcz8_4 : w5.cell? ⟨gb228, 4, none⟩ = some (.string a0_4) := (blk_cell BK228.out 4).trans rfl
      have hfz8_0 := blk_frozen BK228.out 0
      have hfz8_1 := blk_frozen BK228.out 1
      have hfz8_2 := blk_frozen BK228.out 2
      have hfz8_3 := blk_frozen BK228.out 3
      have hfz8_4 := blk_frozen BK228.out 4
      go_wp2
      go_meet
      case rel => exact ⟨_, (decide ((a2.size : Int) > 600)), (by first | rfl | (simp; done) | (simp [*]; done)), H', ⟨by first | omega | exact Nat.le_refl _⟩, ⟨by (with_reducible repeat (first | refine blk_drewN ?_ _ | refine blk_drew ?_ | refine blk_alloc ?_ _)); exact BK228.out⟩, ⟨by repeat (first | (with_reducible first | exact HB.out | apply below_alloc | apply pw_below_drewN | apply below_drew1 | refine below_set ?_ GE228.out) | exact HB.out)⟩⟩
  case rest =>
    clear HC4
    try clear p2
    try clear c4
    try clear c6
    try clear c6b0
    try clear c6b1
    try clear hcz7_0
    try clear hcz7_1
    try clear hcz7_2
    try clear hcz7_3
    try clear hcz7_4
    try clear hcz8_0
    try clear hcz8_1
    try clear hcz8_2
    try clear hcz8_3
    try clear hcz8_4
    try clear hfz7_0
    try clear hfz7_1
    try clear hfz7_2
    try clear hfz7_3
    try clear hfz7_4
    try clear hfz8_0
    try clear hfz8_1
    try clear hfz8_2
    try clear hfz8_3
    try clear hfz8_4
    obtain ⟨kq, x22_3, rfl, HA, HJ3, BK228, HB⟩ := hcut
    cases kq with
    | zero => exact absurd HA.out (by simp [carousellaw06_CcmBack.j0])
    | succ kj3 =>
      have H := HA.out
      clear HA
      simp only [carousellaw06_CcmBack.j0] at H
      by_cases c9 : x22_3 = true
      · subst c9
        have H1 : ((carousellaw06_Awake.f kj3).bind fun t229 => (some t229)) = some r := by rw [if_pos rfl] at H; exact H
        clear H
        have H := H1
        clear H1
        replace H := Option.bind_eq_some_iff.mp H
        obtain ⟨t229, A100, H⟩ := H
        replace H : (some t229) = some r := H
        have A10 := Aside0.mk A100
        clear A100
        obtain rfl := Option.some.inj H
        go_wp2_with (first | ((with_reducible refine gate_callee (f := 9) rfl ?_); refine goesL_ (some 23) rfl rfl Try.func9 (by kernel_rfl) rfl #[] rfl (by (try simp only [List.map_toArray, List.map_cons, List.map_nil]); first | done | rfl | (simp only [List.length_drop, List.length_take]; rfl)) ?_; (with_reducible refine (carousellaw06_Awake.calls kj3  t229 _ A10.out).mono ?_); rintro e w11 ⟨rfl, hb⟩; refine ⟨_, rfl, ?_⟩; have n0_ := Aside0.mk (blk_below (g := gb228) (o := .cells #[.bool a0_0, .int .u8 a0_1, .int .u32 a0_2, .int .u16 a0_3, .string a0_4] 26 (0, 0)) (by (with_reducible repeat (first | refine blk_drewN ?_ _ | refine blk_drew ?_ | refine blk_alloc ?_ _)); exact BK228.out) hb); have n1_ := Aside0.mk (below_step (by repeat (first | (with_reducible first | exact HB.out | apply below_alloc | apply pw_below_drewN | apply below_drew1 | refine below_set ?_ GE228.out) | exact HB.out)) hb); clear BK228; clear HB; have BK228 := n0_; have HB := n1_; clear n0_ n1_; (try clear hb); (try clear hb2); (try clear hk); (try clear hi)))
        go_ret
        exact ⟨by first | rfl | (simp [errW_none, errW_some] <;> rfl) | (simp [*, errW_none, errW_some] <;> rfl), by repeat (first | (with_reducible first | exact HB.out | apply below_alloc | apply pw_below_drewN | apply below_drew1 | refine below_set ?_ GE228.out) | exact HB.out)⟩
      · replace c9 := Bool.eq_false_iff.mpr c9
        subst c9
        have H1 : ((ccm_Close.f kj3 a0_0 a0_1 a0_2 a0_3 a0_4 a1).bind fun bt230 => (if bt230.2 = 0 then ((ccm_Open.f kj3 bt230.1 a1).bind fun bt232 => (if bt232.2.2.2.2.2 = 0 then (if (!(bt232.1 == a0_0) || (!(bt232.2.1 == a0_1) || (!(bt232.2.2.1 == a0_2) || (!(bt232.2.2.2.1 == a0_3) || (!(bt232.2.2.2.2.1.toList == a0_4.toList)))))) = true then (some false) else (carousellaw06_CcmBack.j1 kj3 a1 a2)) else (some false))) else (carousellaw06_CcmBack.j1 kj3 a1 a2))) = some r := by rw [if_neg (show ¬ (false = true) by decide)] at H; exact H
        clear H
        have H := H1
        clear H1
        replace H := Option.bind_eq_some_iff.mp H
        obtain ⟨⟨t230, t231⟩, A120, H⟩ := H
        replace H : (if t231 = 0 then ((ccm_Open.f kj3 t230 a1).bind fun bt232 => (if bt232.2.2.2.2.2 = 0 then (if (!(bt232.1 == a0_0) || (!(bt232.2.1 == a0_1) || (!(bt232.2.2.1 == a0_2) || (!(bt232.2.2.2.1 == a0_3) || (!(bt232.2.2.2.2.1.toList == a0_4.toList)))))) = true then (some false) else (carousellaw06_CcmBack.j1 kj3 a1 a2)) else (some false))) else (carousellaw06_CcmBack.j1 kj3 a1 a2)) = some r := H
        have A12 := Aside0.mk A120
        clear A120
        have HC13 := Aside0.mk H
        clear H
        have hcz14_0 : wc.cell? ⟨gb228, 0, none⟩ = some (.bool a0_0) := (blk_cell BK228.out 0).trans rfl
        have hcz14_1 : wc.cell? ⟨gb228, 1, none⟩ = some (.int .u8 a0_1) := (blk_cell BK228.out 1).trans rfl
        have hcz14_2 : wc.cell? ⟨gb228, 2, none⟩ = some (.int .u32 a0_2) := (blk_cell BK228.out 2).trans rfl
        have hcz14_3 : wc.cell? ⟨gb228, 3, none⟩ = some (.int .u16 a0_3) := (blk_cell BK228.out 3).trans rfl
        have hcz14_4 : wc.cell? ⟨gb228, 4, none⟩ = some (.string a0_4) := (blk_cell BK228.out 4).trans rfl
        have hfz14_0 := blk_frozen BK228.out 0
        have hfz14_1 := blk_frozen BK228.out 1
        have hfz14_2 := blk_frozen BK228.out 2
        have hfz14_3 := blk_frozen BK228.out 3
        have hfz14_4 := blk_frozen BK228.out 4
        go_upto_if 31 with (first | ((with_reducible refine gate_callee (f := 12) rfl ?_); refine goesL_ (some 27) rfl rfl Try.func12 (by kernel_rfl) rfl #[.agg #[.bool a0_0, .int .u8 a0_1, .int .u32 a0_2, .int .u16 a0_3, .string a0_4], .int .u8 a1] rfl (by (try simp only [List.map_toArray, List.map_cons, List.map_nil]); first | done | rfl | (simp only [List.length_drop, List.length_take]; rfl)) ?_; (with_reducible refine (ccm_Close.calls kj3 a0_0 a0_1 a0_2 a0_3 a0_4 a1 t230 t231 _ A12.out).mono ?_); rintro e w15 ⟨rfl, hb⟩; refine ⟨_, rfl, ?_⟩; have n0_ := Aside0.mk (blk_below (g := gb228) (o := .cells #[.bool a0_0, .int .u8 a0_1, .int .u32 a0_2, .int .u16 a0_3, .string a0_4] 26 (0, 0)) (by (with_reducible repeat (first | refine blk_drewN ?_ _ | refine blk_drew ?_ | refine blk_alloc ?_ _)); exact BK228.out) hb); have n1_ := Aside0.mk (below_step (by repeat (first | (with_reducible first | exact HB.out | apply below_alloc | apply pw_below_drewN | apply below_drew1 | refine below_set ?_ GE228.out) | exact HB.out)) hb); clear BK228; clear HB; have BK228 := n0_; have HB := n1_; clear n0_ n1_; (try clear hb); (try clear hb2); (try clear hk); (try clear hi)))
        (try simp only [Act.put, List.setIfInBounds_toArray, List.set_cons_zero, List.set_cons_succ])
        go_cut [] (fun wc => ∃ (kq : Nat), Aside0 (carousellaw06_CcmBack.j1 kq a1 a2 = some r) ∧ Aside0 (kq ≤ kj3) ∧ Aside0 (wc.heap[gb228]? = some (.cells #[.bool a0_0, .int .u8 a0_1, .int .u32 a0_2, .int .u16 a0_3, .string a0_4] 26 (0, 0))) ∧ Aside0 (Below w.heap.size w wc))
        case first =>
          have H := HC13.out
          clear HC13
          by_cases c16 : t231 = 0
          · rw [if_pos c16] at H
            have c16b0 : (t231 == 0) = true := beq_iff_eq.mpr c16
            have c16b1 : (t231 != 0) = false := bne_eq_false_iff_eq.mpr c16
            clear c16
            (first | rw [c16b0] | (simp only [i64_w, i32_w]; rw [c16b0]) | skip)
            replace H := Option.bind_eq_some_iff.mp H
            obtain ⟨⟨t232, t233, t234, t235, t236, t237⟩, A170, H⟩ := H
            replace H : (if t237 = 0 then (if (!(t232 == a0_0) || (!(t233 == a0_1) || (!(t234 == a0_2) || (!(t235 == a0_3) || (!(t236.toList == a0_4.toList)))))) = true then (some false) else (carousellaw06_CcmBack.j1 kj3 a1 a2)) else (some false)) = some r := H
            have A17 := Aside0.mk A170
            clear A170
            by_cases c18 : t237 = 0
            · rw [if_pos c18] at H
              have c18b0 : (t237 == 0) = true := beq_iff_eq.mpr c18
              have c18b1 : (t237 != 0) = false := bne_eq_false_iff_eq.mpr c18
              clear c18
              by_cases c19 : (!(t232 == a0_0) || (!(t233 == a0_1) || (!(t234 == a0_2) || (!(t235 == a0_3) || (!(t236.toList == a0_4.toList)))))) = true
              · rw [if_pos c19] at H
                have c19b0 : (!(t232 == a0_0) || (!(t233 == a0_1) || (!(t234 == a0_2) || (!(t235 == a0_3) || (!(t236.toList == a0_4.toList)))))) = true := c19
                clear c19
                cases (Option.some.inj H).trans hT
              · rw [if_neg c19] at H
                have c19b0 : (!(t232 == a0_0) || (!(t233 == a0_1) || (!(t234 == a0_2) || (!(t235 == a0_3) || (!(t236.toList == a0_4.toList)))))) = false := by simpa using c19
                clear c19
                have H' := Aside0.mk H
                clear H
                go_wp2_with (first | ((with_reducible refine gate_callee (f := 10) rfl ?_); refine goesL_ (some 35) rfl rfl Try.func10 (by kernel_rfl) rfl #[.string t230, .int .u8 a1] rfl (by (try simp only [List.map_toArray, List.map_cons, List.map_nil]); first | done | rfl | (simp only [List.length_drop, List.length_take]; rfl)) ?_; (with_reducible refine (ccm_Open.calls kj3 t230 a1 t232 t233 t234 t235 t236 t237 _ A17.out).mono ?_); rintro e w20 ⟨rfl, hb⟩; refine ⟨_, rfl, ?_⟩; have n0_ := Aside0.mk (blk_below (g := gb228) (o := .cells #[.bool a0_0, .int .u8 a0_1, .int .u32 a0_2, .int .u16 a0_3, .string a0_4] 26 (0, 0)) (by (with_reducible repeat (first | refine blk_drewN ?_ _ | refine blk_drew ?_ | refine blk_alloc ?_ _)); exact BK228.out) hb); have n1_ := Aside0.mk (below_step (by repeat (first | (with_reducible first | exact HB.out | apply below_alloc | apply pw_below_drewN | apply below_drew1 | refine below_set ?_ GE228.out) | exact HB.out)) hb); clear BK228; clear HB; have BK228 := n0_; have HB := n1_; clear n0_ n1_; (try clear hb); (try clear hb2); (try clear hk); (try clear hi)) | ((with_reducible refine gate_dst (N := 9) rfl ?_); (try (refine gate_guard (by rfl) ?_; dsimp only)); refine box_event ?hg (N := 9) ?hd (cs := #[.bool false, .int .u8 0, .int .u32 0, .int .u16 0, .string (⟨#[]⟩ : ByteArray)]) (t := 26) ?hr ?_; (case hd => rfl); (case hg => rfl); (case hr => first | (go_simp; done) | (go_simp; rfl)); intro gb238 hg w21 hbox hb; have n0_ := Aside0.mk (blk_below (g := gb228) (o := .cells #[.bool a0_0, .int .u8 a0_1, .int .u32 a0_2, .int .u16 a0_3, .string a0_4] 26 (0, 0)) (by (with_reducible repeat (first | refine blk_drewN ?_ _ | refine blk_drew ?_ | refine blk_alloc ?_ _)); exact BK228.out) hb); have n1_ := Aside0.mk (below_step (by repeat (first | (with_reducible first | exact HB.out | apply below_alloc | apply pw_below_drewN | apply below_drew1 | refine below_set ?_ GE228.out) | exact HB.out)) hb); have n2_ := Aside0.mk (hbox); have n3_ := Aside0.mk ((by rw [hg]; exact (below_size (by repeat (first | (with_reducible first | exact HB.out | apply below_alloc | apply pw_below_drewN | apply below_drew1 | refine below_set ?_ GE228.out) | exact HB.out))) : w.heap.size ≤ gb238)); have n4_ := Aside0.mk ((by rw [hg]; exact (below_size (by repeat (first | (with_reducible first | exact HB.out | apply below_alloc | apply pw_below_drewN | apply below_drew1 | refine below_set ?_ GE228.out) | exact HB.out))) : w.heap.size ≤ gb238)); have n5_ := Aside0.mk ((by rw [hg]; exact Nat.ne_of_lt (blk_lt (g := gb228) (o := .cells #[.bool a0_0, .int .u8 a0_1, .int .u32 a0_2, .int .u16 a0_3, .string a0_4] 26 (0, 0)) (by (with_reducible repeat (first | refine blk_drewN ?_ _ | refine blk_drew ?_ | refine blk_alloc ?_ _)); exact BK228.out)) : gb228 ≠ gb238)); have n6_ := Aside0.mk ((by rw [hg]; exact Nat.ne_of_gt (blk_lt (g := gb228) (o := .cells #[.bool a0_0, .int .u8 a0_1, .int .u32 a0_2, .int .u16 a0_3, .string a0_4] 26 (0, 0)) (by (with_reducible repeat (first | refine blk_drewN ?_ _ | refine blk_drew ?_ | refine blk_alloc ?_ _)); exact BK228.out)) : gb238 ≠ gb228)); clear BK228; clear HB; have BK228 := n0_; have HB := n1_; have BK238 := n2_; have GW238 := n3_; have GE238 := n4_; have NB228_238 := n5_; have NB238_228 := n6_; clear n0_ n1_ n2_ n3_ n4_ n5_ n6_; clear hb hbox hg; have hnb22 := NB238_228.out; have hnc22 := NB228_238.out; have hcz23_0 : w21.cell? ⟨gb238, 0, none⟩ = some (.bool false) := (blk_cell BK238.out 0).trans rfl; have hcz23_1 : w21.cell? ⟨gb238, 1, none⟩ = some (.int .u8 0) := (blk_cell BK238.out 1).trans rfl; have hcz23_2 : w21.cell? ⟨gb238, 2, none⟩ = some (.int .u32 0) := (blk_cell BK238.out 2).trans rfl; have hcz23_3 : w21.cell? ⟨gb238, 3, none⟩ = some (.int .u16 0) := (blk_cell BK238.out 3).trans rfl; have hcz23_4 : w21.cell? ⟨gb238, 4, none⟩ = some (.string (⟨#[]⟩ : ByteArray)) := (blk_cell BK238.out 4).trans rfl; have hfz23_0 := blk_frozen BK238.out 0; have hfz23_1 := blk_frozen BK238.out 1; have hfz23_2 := blk_frozen BK238.out 2; have hfz23_3 := blk_frozen BK238.out 3; have hfz23_4 := blk_frozen BK238.out 4; have hcz24_0 : w21.cell? ⟨gb228, 0, none⟩ = some (.bool a0_0) := (blk_cell BK228.out 0).trans rfl; have hcz24_1 : w21.cell? ⟨gb228, 1, none⟩ = some (.int .u8 a0_1) := (blk_cell BK228.out 1).trans rfl; have hcz24_2 : w21.cell? ⟨gb228, 2, none⟩ = some (.int .u32 a0_2) := (blk_cell BK228.out 2).trans rfl; have hcz24_3 : w21.cell? ⟨gb228, 3, none⟩ = some (.int .u16 a0_3) := (blk_cell BK228.out 3).trans rfl; have hcz24_4 : w21.cell? ⟨gb228, 4, none⟩ = some (.string a0_4) := (blk_cell BK228.out 4).trans rfl; have hfz24_0 := blk_frozen BK228.out 0; have hfz24_1 := blk_frozen BK228.out 1; have hfz24_2 := blk_frozen BK228.out 2; have hfz24_3 := blk_frozen BK228.out 3; have hfz24_4 := blk_frozen BK228.out 4))
                go_meet
                case rel => exact ⟨_, H', ⟨by have := HJ3.out; first | omega | exact Nat.le_refl _⟩, ⟨by (with_reducible repeat (first | refine blk_drewN ?_ _ | refine blk_drew ?_ | refine blk_alloc ?_ _)); refine blk_far ?_ NB228_238.out _; (with_reducible repeat (first | refine blk_drewN ?_ _ | refine blk_drew ?_ | refine blk_alloc ?_ _)); refine blk_far ?_ NB228_238.out _; (with_reducible repeat (first | refine blk_drewN ?_ _ | refine blk_drew ?_ | refine blk_alloc ?_ _)); refine blk_far ?_ NB228_238.out _; (with_reducible repeat (first | refine blk_drewN ?_ _ | refine blk_drew ?_ | refine blk_alloc ?_ _)); refine blk_far ?_ NB228_238.out _; (with_reducible repeat (first | refine blk_drewN ?_ _ | refine blk_drew ?_ | refine blk_alloc ?_ _)); refine blk_far ?_ NB228_238.out _; (with_reducible repeat (first | refine blk_drewN ?_ _ | refine blk_drew ?_ | refine blk_alloc ?_ _)); exact BK228.out⟩, ⟨by repeat (first | (with_reducible first | exact HB.out | apply below_alloc | apply pw_below_drewN | apply below_drew1 | refine below_set ?_ GE228.out | refine below_set ?_ GE238.out) | exact HB.out)⟩⟩
            · rw [if_neg c18] at H
              have c18b0 : (t237 == 0) = false := beq_eq_false_iff_ne.mpr c18
              have c18b1 : (t237 != 0) = true := bne_iff_ne.mpr c18
              cases (Option.some.inj H).trans hT
          · rw [if_neg c16] at H
            have c16b0 : (t231 == 0) = false := beq_eq_false_iff_ne.mpr c16
            have c16b1 : (t231 != 0) = true := bne_iff_ne.mpr c16
            (first | rw [c16b0] | (simp only [i64_w, i32_w]; rw [c16b0]) | skip)
            have H' := Aside0.mk H
            clear H
            go_wp2
            go_meet
            case rel => exact ⟨_, H', ⟨by have := HJ3.out; first | omega | exact Nat.le_refl _⟩, ⟨by (with_reducible repeat (first | refine blk_drewN ?_ _ | refine blk_drew ?_ | refine blk_alloc ?_ _)); exact BK228.out⟩, ⟨by repeat (first | (with_reducible first | exact HB.out | apply below_alloc | apply pw_below_drewN | apply below_drew1 | refine below_set ?_ GE228.out) | exact HB.out)⟩⟩
        case rest =>
          clear HC13
          try clear c1
          try clear c2
          try clear p2
          try clear c4
          try clear c6
          try clear c6b0
          try clear c6b1
          try clear c9
          try clear c10
          try clear c12
          try clear c16
          try clear c16b0
          try clear c16b1
          try clear c18
          try clear c18b0
          try clear c18b1
          try clear c19
          try clear c19b0
          try clear c22
          try clear hcz14_0
          try clear hcz14_1
          try clear hcz14_2
          try clear hcz14_3
          try clear hcz14_4
          try clear hcz23_0
          try clear hcz23_1
          try clear hcz23_2
          try clear hcz23_3
          try clear hcz23_4
          try clear hcz24_0
          try clear hcz24_1
          try clear hcz24_2
          try clear hcz24_3
          try clear hcz24_4
          try clear hcz7_0
          try clear hcz7_1
          try clear hcz7_2
          try clear hcz7_3
          try clear hcz7_4
          try clear hcz8_0
          try clear hcz8_1
          try clear hcz8_2
          try clear hcz8_3
          try clear hcz8_4
          try clear hfz14_0
          try clear hfz14_1
          try clear hfz14_2
          try clear hfz14_3
          try clear hfz14_4
          try clear hfz23_0
          try clear hfz23_1
          try clear hfz23_2
          try clear hfz23_3
          try clear hfz23_4
          try clear hfz24_0
          try clear hfz24_1
          try clear hfz24_2
          try clear hfz24_3
          try clear hfz24_4
          try clear hfz7_0
          try clear hfz7_1
          try clear hfz7_2
          try clear hfz7_3
          try clear hfz7_4
          try clear hfz8_0
          try clear hfz8_1
          try clear hfz8_2
          try clear hfz8_3
          try clear hfz8_4
          try clear p2
          obtain ⟨kq, HA, HJ12, BK228, HB⟩ := hcut
          cases kq with
          | zero => exact absurd HA.out (by simp [carousellaw06_CcmBack.j1])
          | succ kj12 =>
            have H := HA.out
            clear HA
            simp only [carousellaw06_CcmBack.j1] at H
            replace H := Option.bind_eq_some_iff.mp H
            obtain ⟨⟨t239, t240, t241, t242, t243, t244⟩, A250, H⟩ := H
            replace H : (if t244 = 0 then (carousellaw06_CcmBack.j2 kj12 a1 a2 t244 ((a2.size : Int) != 75) t239 t240 t241 t242 t243) else (carousellaw06_CcmBack.j2 kj12 a1 a2 t244 true t239 t240 t241 t242 t243)) = some r := H
            have A25 := Aside0.mk A250
            clear A250
            have HC26 := Aside0.mk H
            clear H
            go_upto_region 9 with (first | ((with_reducible refine gate_callee (f := 10) rfl ?_); refine goesL_ (some 48) rfl rfl Try.func10 (by kernel_rfl) rfl #[.string a2, .int .u8 a1] rfl (by (try simp only [List.map_toArray, List.map_cons, List.map_nil]); first | done | rfl | (simp only [List.length_drop, List.length_take]; rfl)) ?_; (with_reducible refine (ccm_Open.calls kj12 a2 a1 t239 t240 t241 t242 t243 t244 _ A25.out).mono ?_); rintro e w27 ⟨rfl, hb⟩; refine ⟨_, rfl, ?_⟩; have n0_ := Aside0.mk (blk_below (g := gb228) (o := .cells #[.bool a0_0, .int .u8 a0_1, .int .u32 a0_2, .int .u16 a0_3, .string a0_4] 26 (0, 0)) (by (with_reducible repeat (first | refine blk_drewN ?_ _ | refine blk_drew ?_ | refine blk_alloc ?_ _)); exact BK228.out) hb); have n1_ := Aside0.mk (below_step (by repeat (first | (with_reducible first | exact HB.out | apply below_alloc | apply pw_below_drewN | apply below_drew1 | refine below_set ?_ GE228.out) | exact HB.out)) hb); clear BK228; clear HB; have BK228 := n0_; have HB := n1_; clear n0_ n1_; (try clear hb); (try clear hb2); (try clear hk); (try clear hi)) | ((with_reducible refine gate_dst (N := 11) rfl ?_); (try (refine gate_guard (by rfl) ?_; dsimp only)); refine box_event ?hg (N := 11) ?hd (cs := #[.bool false, .int .u8 0, .int .u32 0, .int .u16 0, .string (⟨#[]⟩ : ByteArray)]) (t := 26) ?hr ?_; (case hd => rfl); (case hg => rfl); (case hr => first | (go_simp; done) | (go_simp; rfl)); intro gb245 hg w28 hbox hb; have n0_ := Aside0.mk (blk_below (g := gb228) (o := .cells #[.bool a0_0, .int .u8 a0_1, .int .u32 a0_2, .int .u16 a0_3, .string a0_4] 26 (0, 0)) (by (with_reducible repeat (first | refine blk_drewN ?_ _ | refine blk_drew ?_ | refine blk_alloc ?_ _)); exact BK228.out) hb); have n1_ := Aside0.mk (below_step (by repeat (first | (with_reducible first | exact HB.out | apply below_alloc | apply pw_below_drewN | apply below_drew1 | refine below_set ?_ GE228.out) | exact HB.out)) hb); have n2_ := Aside0.mk (hbox); have n3_ := Aside0.mk ((by rw [hg]; exact (below_size (by repeat (first | (with_reducible first | exact HB.out | apply below_alloc | apply pw_below_drewN | apply below_drew1 | refine below_set ?_ GE228.out) | exact HB.out))) : w.heap.size ≤ gb245)); have n4_ := Aside0.mk ((by rw [hg]; exact (below_size (by repeat (first | (with_reducible first | exact HB.out | apply below_alloc | apply pw_below_drewN | apply below_drew1 | refine below_set ?_ GE228.out) | exact HB.out))) : w.heap.size ≤ gb245)); have n5_ := Aside0.mk ((by rw [hg]; exact Nat.ne_of_lt (blk_lt (g := gb228) (o := .cells #[.bool a0_0, .int .u8 a0_1, .int .u32 a0_2, .int .u16 a0_3, .string a0_4] 26 (0, 0)) (by (with_reducible repeat (first | refine blk_drewN ?_ _ | refine blk_drew ?_ | refine blk_alloc ?_ _)); exact BK228.out)) : gb228 ≠ gb245)); have n6_ := Aside0.mk ((by rw [hg]; exact Nat.ne_of_gt (blk_lt (g := gb228) (o := .cells #[.bool a0_0, .int .u8 a0_1, .int .u32 a0_2, .int .u16 a0_3, .string a0_4] 26 (0, 0)) (by (with_reducible repeat (first | refine blk_drewN ?_ _ | refine blk_drew ?_ | refine blk_alloc ?_ _)); exact BK228.out)) : gb245 ≠ gb228)); clear BK228; clear HB; have BK228 := n0_; have HB := n1_; have BK245 := n2_; have GW245 := n3_; have GE245 := n4_; have NB228_245 := n5_; have NB245_228 := n6_; clear n0_ n1_ n2_ n3_ n4_ n5_ n6_; clear hb hbox hg; have hnb29 := NB245_228.out; have hnc29 := NB228_245.out; have hcz30_0 : w28.cell? ⟨gb245, 0, none⟩ = some (.bool false) := (blk_cell BK245.out 0).trans rfl; have hcz30_1 : w28.cell? ⟨gb245, 1, none⟩ = some (.int .u8 0) := (blk_cell BK245.out 1).trans rfl; have hcz30_2 : w28.cell? ⟨gb245, 2, none⟩ = some (.int .u32 0) := (blk_cell BK245.out 2).trans rfl; have hcz30_3 : w28.cell? ⟨gb245, 3, none⟩ = some (.int .u16 0) := (blk_cell BK245.out 3).trans rfl; have hcz30_4 : w28.cell? ⟨gb245, 4, none⟩ = some (.string (⟨#[]⟩ : ByteArray)) := (blk_cell BK245.out 4).trans rfl; have hfz30_0 := blk_frozen BK245.out 0; have hfz30_1 := blk_frozen BK245.out 1; have hfz30_2 := blk_frozen BK245.out 2; have hfz30_3 := blk_frozen BK245.out 3; have hfz30_4 := blk_frozen BK245.out 4))
            (try simp only [Act.put, List.setIfInBounds_toArray, List.set_cons_zero, List.set_cons_succ])
            go_cut [57] (fun v57 wc => ∃ (kq : Nat) (x57_25 : Bool), v57 = .bool x57_25 ∧ Aside0 (carousellaw06_CcmBack.j2 kq a1 a2 t244 x57_25 t239 t240 t241 t242 t243 = some r) ∧ Aside0 (kq ≤ kj12) ∧ Aside0 (wc.heap[gb228]? = some (.cells #[.bool a0_0, .int .u8 a0_1, .int .u32 a0_2, .int .u16 a0_3, .string a0_4] 26 (0, 0))) ∧ Aside0 (wc.heap[gb245]? = some (.cells #[.bool t239, .int .u8 t240, .int .u32 t241, .int .u16 t242, .string t243] 26 (0, 0))) ∧ Aside0 (Below w.heap.size w wc))
            case first =>
              have H := HC26.out
              clear HC26
              by_cases c31 : t244 = 0
              · rw [if_pos c31] at H
                have c31b0 : (t244 == 0) = true := beq_iff_eq.mpr c31
                have c31b1 : (t244 != 0) = false := bne_eq_false_iff_eq.mpr c31
                clear c31
                (first | rw [c31b0] | (simp only [i64_w, i32_w]; rw [c31b0]) | skip)
                have H' := Aside0.mk H
                clear H
                go_wp2
                go_meet
                case rel => exact ⟨_, (((a2.size : Int) != 75)), (by first | rfl | (simp; done) | (simp [*]; done)), H', ⟨by have := HJ3.out; have := HJ12.out; first | omega | exact Nat.le_refl _⟩, ⟨by (with_reducible repeat (first | refine blk_drewN ?_ _ | refine blk_drew ?_ | refine blk_alloc ?_ _)); refine blk_far ?_ NB228_245.out _; (with_reducible repeat (first | refine blk_drewN ?_ _ | refine blk_drew ?_ | refine blk_alloc ?_ _)); refine blk_far ?_ NB228_245.out _; (with_reducible repeat (first | refine blk_drewN ?_ _ | refine blk_drew ?_ | refine blk_alloc ?_ _)); refine blk_far ?_ NB228_245.out _; (with_reducible repeat (first | refine blk_drewN ?_ _ | refine blk_drew ?_ | refine blk_alloc ?_ _)); refine blk_far ?_ NB228_245.out _; (with_reducible repeat (first | refine blk_drewN ?_ _ | refine blk_drew ?_ | refine blk_alloc ?_ _)); refine blk_far ?_ NB228_245.out _; (with_reducible repeat (first | refine blk_drewN ?_ _ | refine blk_drew ?_ | refine blk_alloc ?_ _)); exact BK228.out⟩, ⟨by (with_reducible repeat (first | refine blk_drewN ?_ _ | refine blk_drew ?_ | refine blk_alloc ?_ _)); refine blk_put (cs := #[.bool t239, .int .u8 t240, .int .u32 t241, .int .u16 t242, .string (⟨#[]⟩ : ByteArray)]) ?_ 4 _ rfl; (with_reducible repeat (first | refine blk_drewN ?_ _ | refine blk_drew ?_ | refine blk_alloc ?_ _)); refine blk_put (cs := #[.bool t239, .int .u8 t240, .int .u32 t241, .int .u16 0, .string (⟨#[]⟩ : ByteArray)]) ?_ 3 _ rfl; (with_reducible repeat (first | refine blk_drewN ?_ _ | refine blk_drew ?_ | refine blk_alloc ?_ _)); refine blk_put (cs := #[.bool t239, .int .u8 t240, .int .u32 0, .int .u16 0, .string (⟨#[]⟩ : ByteArray)]) ?_ 2 _ rfl; (with_reducible repeat (first | refine blk_drewN ?_ _ | refine blk_drew ?_ | refine blk_alloc ?_ _)); refine blk_put (cs := #[.bool t239, .int .u8 0, .int .u32 0, .int .u16 0, .string (⟨#[]⟩ : ByteArray)]) ?_ 1 _ rfl; (with_reducible repeat (first | refine blk_drewN ?_ _ | refine blk_drew ?_ | refine blk_alloc ?_ _)); refine blk_put (cs := #[.bool false, .int .u8 0, .int .u32 0, .int .u16 0, .string (⟨#[]⟩ : ByteArray)]) ?_ 0 _ rfl; (with_reducible repeat (first | refine blk_drewN ?_ _ | refine blk_drew ?_ | refine blk_alloc ?_ _)); exact BK245.out⟩, ⟨by repeat (first | (with_reducible first | exact HB.out | apply below_alloc | apply pw_below_drewN | apply below_drew1 | refine below_set ?_ GE228.out | refine below_set ?_ GE245.out) | exact HB.out)⟩⟩
              · rw [if_neg c31] at H
                have c31b0 : (t244 == 0) = false := beq_eq_false_iff_ne.mpr c31
                have c31b1 : (t244 != 0) = true := bne_iff_ne.mpr c31
                (first | rw [c31b0] | (simp only [i64_w, i32_w]; rw [c31b0]) | skip)
                have H' := Aside0.mk H
                clear H
                go_wp2
                go_meet
                case rel => exact ⟨_, (true), (by first | rfl | (simp; done) | (simp [*]; done)), H', ⟨by have := HJ3.out; have := HJ12.out; first | omega | exact Nat.le_refl _⟩, ⟨by (with_reducible repeat (first | refine blk_drewN ?_ _ | refine blk_drew ?_ | refine blk_alloc ?_ _)); refine blk_far ?_ NB228_245.out _; (with_reducible repeat (first | refine blk_drewN ?_ _ | refine blk_drew ?_ | refine blk_alloc ?_ _)); refine blk_far ?_ NB228_245.out _; (with_reducible repeat (first | refine blk_drewN ?_ _ | refine blk_drew ?_ | refine blk_alloc ?_ _)); refine blk_far ?_ NB228_245.out _; (with_reducible repeat (first | refine blk_drewN ?_ _ | refine blk_drew ?_ | refine blk_alloc ?_ _)); refine blk_far ?_ NB228_245.out _; (with_reducible repeat (first | refine blk_drewN ?_ _ | refine blk_drew ?_ | refine blk_alloc ?_ _)); refine blk_far ?_ NB228_245.out _; (with_reducible repeat (first | refine blk_drewN ?_ _ | refine blk_drew ?_ | refine blk_alloc ?_ _)); exact BK228.out⟩, ⟨by (with_reducible repeat (first | refine blk_drewN ?_ _ | refine blk_drew ?_ | refine blk_alloc ?_ _)); refine blk_put (cs := #[.bool t239, .int .u8 t240, .int .u32 t241, .int .u16 t242, .string (⟨#[]⟩ : ByteArray)]) ?_ 4 _ rfl; (with_reducible repeat (first | refine blk_drewN ?_ _ | refine blk_drew ?_ | refine blk_alloc ?_ _)); refine blk_put (cs := #[.bool t239, .int .u8 t240, .int .u32 t241, .int .u16 0, .string (⟨#[]⟩ : ByteArray)]) ?_ 3 _ rfl; (with_reducible repeat (first | refine blk_drewN ?_ _ | refine blk_drew ?_ | refine blk_alloc ?_ _)); refine blk_put (cs := #[.bool t239, .int .u8 t240, .int .u32 0, .int .u16 0, .string (⟨#[]⟩ : ByteArray)]) ?_ 2 _ rfl; (with_reducible repeat (first | refine blk_drewN ?_ _ | refine blk_drew ?_ | refine blk_alloc ?_ _)); refine blk_put (cs := #[.bool t239, .int .u8 0, .int .u32 0, .int .u16 0, .string (⟨#[]⟩ : ByteArray)]) ?_ 1 _ rfl; (with_reducible repeat (first | refine blk_drewN ?_ _ | refine blk_drew ?_ | refine blk_alloc ?_ _)); refine blk_put (cs := #[.bool false, .int .u8 0, .int .u32 0, .int .u16 0, .string (⟨#[]⟩ : ByteArray)]) ?_ 0 _ rfl; (with_reducible repeat (first | refine blk_drewN ?_ _ | refine blk_drew ?_ | refine blk_alloc ?_ _)); exact BK245.out⟩, ⟨by repeat (first | (with_reducible first | exact HB.out | apply below_alloc | apply pw_below_drewN | apply below_drew1 | refine below_set ?_ GE228.out | refine below_set ?_ GE245.out) | exact HB.out)⟩⟩
            case rest =>
              clear HC26
              try clear c1
              try clear c2
              try clear p2
              try clear c3
              try clear c4
              try clear c6
              try clear c6b0
              try clear c6b1
              try clear c9
              try clear c10
              try clear c12
              try clear c16
              try clear c16b0
              try clear c16b1
              try clear c18
              try clear c18b0
              try clear c18b1
              try clear c19
              try clear c19b0
              try clear c22
              try clear c29
              try clear c31
              try clear c31b0
              try clear c31b1
              try clear hcz14_0
              try clear hcz14_1
              try clear hcz14_2
              try clear hcz14_3
              try clear hcz14_4
              try clear hcz23_0
              try clear hcz23_1
              try clear hcz23_2
              try clear hcz23_3
              try clear hcz23_4
              try clear hcz24_0
              try clear hcz24_1
              try clear hcz24_2
              try clear hcz24_3
              try clear hcz24_4
              try clear hcz30_0
              try clear hcz30_1
              try clear hcz30_2
              try clear hcz30_3
              try clear hcz30_4
              try clear hcz7_0
              try clear hcz7_1
              try clear hcz7_2
              try clear hcz7_3
              try clear hcz7_4
              try clear hcz8_0
              try clear hcz8_1
              try clear hcz8_2
              try clear hcz8_3
              try clear hcz8_4
              try clear hfz14_0
              try clear hfz14_1
              try clear hfz14_2
              try clear hfz14_3
              try clear hfz14_4
              try clear hfz23_0
              try clear hfz23_1
              try clear hfz23_2
              try clear hfz23_3
              try clear hfz23_4
              try clear hfz24_0
              try clear hfz24_1
              try clear hfz24_2
              try clear hfz24_3
              try clear hfz24_4
              try clear hfz30_0
              try clear hfz30_1
              try clear hfz30_2
              try clear hfz30_3
              try clear hfz30_4
              try clear hfz7_0
              try clear hfz7_1
              try clear hfz7_2
              try clear hfz7_3
              try clear hfz7_4
              try clear hfz8_0
              try clear hfz8_1
              try clear hfz8_2
              try clear hfz8_3
              try clear hfz8_4
              try clear p2
              obtain ⟨kq, x57_25, rfl, HA, HJ25, BK228, BK245, HB⟩ := hcut
              cases kq with
              | zero => exact absurd HA.out (by simp [carousellaw06_CcmBack.j2])
              | succ kj25 =>
                have H := HA.out
                clear HA
                simp only [carousellaw06_CcmBack.j2] at H
                by_cases c32 : x57_25 = true
                · subst c32
                  have H1 : ((carousellaw06_Awake.f kj25).bind fun t246 => (if t246 = true then (if t244 = 0 then (some true) else (some (!t239 && (t240 == 0 && (t241 == 0 && (t242 == 0 && (t243.toList == ([] : List UInt8)))))))) else (some false))) = some r := by rw [if_pos rfl] at H; exact H
                  clear H
                  have H := H1
                  clear H1
                  replace H := Option.bind_eq_some_iff.mp H
                  obtain ⟨t246, A330, H⟩ := H
                  replace H : (if t246 = true then (if t244 = 0 then (some true) else (some (!t239 && (t240 == 0 && (t241 == 0 && (t242 == 0 && (t243.toList == ([] : List UInt8)))))))) else (some false)) = some r := H
                  have A33 := Aside0.mk A330
                  clear A330
                  by_cases c34 : t246 = true
                  · subst c34
                    have H1 : (if t244 = 0 then (some true) else (some (!t239 && (t240 == 0 && (t241 == 0 && (t242 == 0 && (t243.toList == ([] : List UInt8)))))))) = some r := by rw [if_pos rfl] at H; exact H
                    clear H
                    have H := H1
                    clear H1
                    by_cases c35 : t244 = 0
                    · rw [if_pos c35] at H
                      have c35b0 : (t244 == 0) = true := beq_iff_eq.mpr c35
                      have c35b1 : (t244 != 0) = false := bne_eq_false_iff_eq.mpr c35
                      clear c35
                      obtain rfl := Option.some.inj H
                      go_wp2_with (first | ((with_reducible refine gate_callee (f := 9) rfl ?_); refine goesL_ (some 58) rfl rfl Try.func9 (by kernel_rfl) rfl #[] rfl (by (try simp only [List.map_toArray, List.map_cons, List.map_nil]); first | done | rfl | (simp only [List.length_drop, List.length_take]; rfl)) ?_; (with_reducible refine (carousellaw06_Awake.calls kj25  true _ A33.out).mono ?_); rintro e w36 ⟨rfl, hb⟩; refine ⟨_, rfl, ?_⟩; have n0_ := Aside0.mk (blk_below (g := gb228) (o := .cells #[.bool a0_0, .int .u8 a0_1, .int .u32 a0_2, .int .u16 a0_3, .string a0_4] 26 (0, 0)) (by (with_reducible repeat (first | refine blk_drewN ?_ _ | refine blk_drew ?_ | refine blk_alloc ?_ _)); exact BK228.out) hb); have n1_ := Aside0.mk (blk_below (g := gb245) (o := .cells #[.bool t239, .int .u8 t240, .int .u32 t241, .int .u16 t242, .string t243] 26 (0, 0)) (by (with_reducible repeat (first | refine blk_drewN ?_ _ | refine blk_drew ?_ | refine blk_alloc ?_ _)); exact BK245.out) hb); have n2_ := Aside0.mk (below_step (by repeat (first | (with_reducible first | exact HB.out | apply below_alloc | apply pw_below_drewN | apply below_drew1 | refine below_set ?_ GE228.out | refine below_set ?_ GE245.out) | exact HB.out)) hb); clear BK228; clear BK245; clear HB; have BK228 := n0_; have BK245 := n1_; have HB := n2_; clear n0_ n1_ n2_; (try clear hb); (try clear hb2); (try clear hk); (try clear hi)))
                      go_ret
                      exact ⟨by first | rfl | (simp [errW_none, errW_some] <;> rfl) | (simp [*, errW_none, errW_some] <;> rfl), by repeat (first | (with_reducible first | exact HB.out | apply below_alloc | apply pw_below_drewN | apply below_drew1 | refine below_set ?_ GE228.out | refine below_set ?_ GE245.out) | exact HB.out)⟩
                    · rw [if_neg c35] at H
                      have c35b0 : (t244 == 0) = false := beq_eq_false_iff_ne.mpr c35
                      have c35b1 : (t244 != 0) = true := bne_iff_ne.mpr c35
                      obtain rfl := Option.some.inj H
                      go_wp2_with (first | ((with_reducible refine gate_callee (f := 9) rfl ?_); refine goesL_ (some 58) rfl rfl Try.func9 (by kernel_rfl) rfl #[] rfl (by (try simp only [List.map_toArray, List.map_cons, List.map_nil]); first | done | rfl | (simp only [List.length_drop, List.length_take]; rfl)) ?_; (with_reducible refine (carousellaw06_Awake.calls kj25  true _ A33.out).mono ?_); rintro e w37 ⟨rfl, hb⟩; refine ⟨_, rfl, ?_⟩; have n0_ := Aside0.mk (blk_below (g := gb228) (o := .cells #[.bool a0_0, .int .u8 a0_1, .int .u32 a0_2, .int .u16 a0_3, .string a0_4] 26 (0, 0)) (by (with_reducible repeat (first | refine blk_drewN ?_ _ | refine blk_drew ?_ | refine blk_alloc ?_ _)); exact BK228.out) hb); have n1_ := Aside0.mk (blk_below (g := gb245) (o := .cells #[.bool t239, .int .u8 t240, .int .u32 t241, .int .u16 t242, .string t243] 26 (0, 0)) (by (with_reducible repeat (first | refine blk_drewN ?_ _ | refine blk_drew ?_ | refine blk_alloc ?_ _)); exact BK245.out) hb); have n2_ := Aside0.mk (below_step (by repeat (first | (with_reducible first | exact HB.out | apply below_alloc | apply pw_below_drewN | apply below_drew1 | refine below_set ?_ GE228.out | refine below_set ?_ GE245.out) | exact HB.out)) hb); clear BK228; clear BK245; clear HB; have BK228 := n0_; have BK245 := n1_; have HB := n2_; clear n0_ n1_ n2_; (try clear hb); (try clear hb2); (try clear hk); (try clear hi); have hnb38 := NB245_228.out; have hnc38 := NB228_245.out; have hcz39_0 : w37.cell? ⟨gb245, 0, none⟩ = some (.bool t239) := (blk_cell BK245.out 0).trans rfl; have hcz39_1 : w37.cell? ⟨gb245, 1, none⟩ = some (.int .u8 t240) := (blk_cell BK245.out 1).trans rfl; have hcz39_2 : w37.cell? ⟨gb245, 2, none⟩ = some (.int .u32 t241) := (blk_cell BK245.out 2).trans rfl; have hcz39_3 : w37.cell? ⟨gb245, 3, none⟩ = some (.int .u16 t242) := (blk_cell BK245.out 3).trans rfl; have hcz39_4 : w37.cell? ⟨gb245, 4, none⟩ = some (.string t243) := (blk_cell BK245.out 4).trans rfl; have hfz39_0 := blk_frozen BK245.out 0; have hfz39_1 := blk_frozen BK245.out 1; have hfz39_2 := blk_frozen BK245.out 2; have hfz39_3 := blk_frozen BK245.out 3; have hfz39_4 := blk_frozen BK245.out 4))
                      go_ret
                      exact ⟨by first | rfl | (simp [errW_none, errW_some] <;> rfl) | (simp [*, errW_none, errW_some] <;> rfl), by repeat (first | (with_reducible first | exact HB.out | apply below_alloc | apply pw_below_drewN | apply below_drew1 | refine below_set ?_ GE228.out | refine below_set ?_ GE245.out) | exact HB.out)⟩
                  · replace c34 := Bool.eq_false_iff.mpr c34
                    subst c34
                    have H1 : (some false) = some r := by rw [if_neg (show ¬ (false = true) by decide)] at H; exact H
                    clear H
                    have H := H1
                    clear H1
                    cases (Option.some.inj H).trans hT
                · replace c32 := Bool.eq_false_iff.mpr c32
                  subst c32
                  have H1 : ((ccm_Close.f kj25 t239 t240 t241 t242 t243 a1).bind fun bt247 => ((carousellaw06_Awake.f kj25).bind fun t249 => (if t249 = true then (if bt247.2 = 0 then (some (bt247.1.toList == a2.toList)) else (some false)) else (some false)))) = some r := by rw [if_neg (show ¬ (false = true) by decide)] at H; exact H
                  clear H
                  have H := H1
                  clear H1
                  replace H := Option.bind_eq_some_iff.mp H
                  obtain ⟨⟨t247, t248⟩, A400, H⟩ := H
                  replace H : ((carousellaw06_Awake.f kj25).bind fun t249 => (if t249 = true then (if t248 = 0 then (some (t247.toList == a2.toList)) else (some false)) else (some false))) = some r := H
                  have A40 := Aside0.mk A400
                  clear A400
                  replace H := Option.bind_eq_some_iff.mp H
                  obtain ⟨t249, A410, H⟩ := H
                  replace H : (if t249 = true then (if t248 = 0 then (some (t247.toList == a2.toList)) else (some false)) else (some false)) = some r := H
                  have A41 := Aside0.mk A410
                  clear A410
                  by_cases c42 : t249 = true
                  · subst c42
                    have H1 : (if t248 = 0 then (some (t247.toList == a2.toList)) else (some false)) = some r := by rw [if_pos rfl] at H; exact H
                    clear H
                    have H := H1
                    clear H1
                    by_cases c43 : t248 = 0
                    · rw [if_pos c43] at H
                      have c43b0 : (t248 == 0) = true := beq_iff_eq.mpr c43
                      have c43b1 : (t248 != 0) = false := bne_eq_false_iff_eq.mpr c43
                      clear c43
                      obtain rfl := Option.some.inj H
                      have hnb44 := NB245_228.out
                      have hnc44 := NB228_245.out
                      have hcz45_0 : wc.cell? ⟨gb245, 0, none⟩ = some (.bool t239) := (blk_cell BK245.out 0).trans rfl
                      have hcz45_1 : wc.cell? ⟨gb245, 1, none⟩ = some (.int .u8 t240) := (blk_cell BK245.out 1).trans rfl
                      have hcz45_2 : wc.cell? ⟨gb245, 2, none⟩ = some (.int .u32 t241) := (blk_cell BK245.out 2).trans rfl
                      have hcz45_3 : wc.cell? ⟨gb245, 3, none⟩ = some (.int .u16 t242) := (blk_cell BK245.out 3).trans rfl
                      have hcz45_4 : wc.cell? ⟨gb245, 4, none⟩ = some (.string t243) := (blk_cell BK245.out 4).trans rfl
                      have hfz45_0 := blk_frozen BK245.out 0
                      have hfz45_1 := blk_frozen BK245.out 1
                      have hfz45_2 := blk_frozen BK245.out 2
                      have hfz45_3 := blk_frozen BK245.out 3
                      have hfz45_4 := blk_frozen BK245.out 4
                      go_wp2_with (first | ((with_reducible refine gate_callee (f := 12) rfl ?_); refine goesL_ (some 71) rfl rfl Try.func12 (by kernel_rfl) rfl #[.agg #[.bool t239, .int .u8 t240, .int .u32 t241, .int .u16 t242, .string t243], .int .u8 a1] rfl (by (try simp only [List.map_toArray, List.map_cons, List.map_nil]); first | done | rfl | (simp only [List.length_drop, List.length_take]; rfl)) ?_; (with_reducible refine (ccm_Close.calls kj25 t239 t240 t241 t242 t243 a1 t247 t248 _ A40.out).mono ?_); rintro e w46 ⟨rfl, hb⟩; refine ⟨_, rfl, ?_⟩; have n0_ := Aside0.mk (blk_below (g := gb228) (o := .cells #[.bool a0_0, .int .u8 a0_1, .int .u32 a0_2, .int .u16 a0_3, .string a0_4] 26 (0, 0)) (by (with_reducible repeat (first | refine blk_drewN ?_ _ | refine blk_drew ?_ | refine blk_alloc ?_ _)); exact BK228.out) hb); have n1_ := Aside0.mk (blk_below (g := gb245) (o := .cells #[.bool t239, .int .u8 t240, .int .u32 t241, .int .u16 t242, .string t243] 26 (0, 0)) (by (with_reducible repeat (first | refine blk_drewN ?_ _ | refine blk_drew ?_ | refine blk_alloc ?_ _)); exact BK245.out) hb); have n2_ := Aside0.mk (below_step (by repeat (first | (with_reducible first | exact HB.out | apply below_alloc | apply pw_below_drewN | apply below_drew1 | refine below_set ?_ GE228.out | refine below_set ?_ GE245.out) | exact HB.out)) hb); clear BK228; clear BK245; clear HB; have BK228 := n0_; have BK245 := n1_; have HB := n2_; clear n0_ n1_ n2_; (try clear hb); (try clear hb2); (try clear hk); (try clear hi)) | ((with_reducible refine gate_callee (f := 9) rfl ?_); refine goesL_ (some 74) rfl rfl Try.func9 (by kernel_rfl) rfl #[] rfl (by (try simp only [List.map_toArray, List.map_cons, List.map_nil]); first | done | rfl | (simp only [List.length_drop, List.length_take]; rfl)) ?_; (with_reducible refine (carousellaw06_Awake.calls kj25  true _ A41.out).mono ?_); rintro e w47 ⟨rfl, hb⟩; refine ⟨_, rfl, ?_⟩; have n0_ := Aside0.mk (blk_below (g := gb228) (o := .cells #[.bool a0_0, .int .u8 a0_1, .int .u32 a0_2, .int .u16 a0_3, .string a0_4] 26 (0, 0)) (by (with_reducible repeat (first | refine blk_drewN ?_ _ | refine blk_drew ?_ | refine blk_alloc ?_ _)); exact BK228.out) hb); have n1_ := Aside0.mk (blk_below (g := gb245) (o := .cells #[.bool t239, .int .u8 t240, .int .u32 t241, .int .u16 t242, .string t243] 26 (0, 0)) (by (with_reducible repeat (first | refine blk_drewN ?_ _ | refine blk_drew ?_ | refine blk_alloc ?_ _)); exact BK245.out) hb); have n2_ := Aside0.mk (below_step (by repeat (first | (with_reducible first | exact HB.out | apply below_alloc | apply pw_below_drewN | apply below_drew1 | refine below_set ?_ GE228.out | refine below_set ?_ GE245.out) | exact HB.out)) hb); clear BK228; clear BK245; clear HB; have BK228 := n0_; have BK245 := n1_; have HB := n2_; clear n0_ n1_ n2_; (try clear hb); (try clear hb2); (try clear hk); (try clear hi)))
                      go_ret
                      exact ⟨by first | rfl | (simp [errW_none, errW_some] <;> rfl) | (simp [*, errW_none, errW_some] <;> rfl), by repeat (first | (with_reducible first | exact HB.out | apply below_alloc | apply pw_below_drewN | apply below_drew1 | refine below_set ?_ GE228.out | refine below_set ?_ GE245.out) | exact HB.out)⟩
                    · rw [if_neg c43] at H
                      have c43b0 : (t248 == 0) = false := beq_eq_false_iff_ne.mpr c43
                      have c43b1 : (t248 != 0) = true := bne_iff_ne.mpr c43
                      cases (Option.some.inj H).trans hT
                  · replace c42 := Bool.eq_false_iff.mpr c42
                    subst c42
                    have H1 : (some false) = some r := by rw [if_neg (show ¬ (false = true) by decide)] at H; exact H
                    clear H
                    have H := H1
                    clear H1
                    cases (Option.some.inj H).trans hT

/-- THE ONE PURE STATEMENT of carousellaw06_CcmBack: yours. -/
def carousellaw06_CcmBack.Pure : Prop := ∀ (a0_0 : Bool) (a0_1 : Int) (a0_2 : Int) (a0_3 : Int) (a0_4 : ByteArray) (a1 : Int) (a2 : ByteArray), (Lit.int .u8 a0_1).wf = true → (Lit.int .u32 a0_2).wf = true → (Lit.int .u16 a0_3).wf = true → a0_4.size ≤ 9223372036854775807 → (Lit.int .u8 a1).wf = true → a2.size ≤ 140737488351232 → ∃ k, carousellaw06_CcmBack.f k a0_0 a0_1 a0_2 a0_3 a0_4 a1 a2 = some true
theorem carousellaw06_CcmBack.walk (P : carousellaw06_CcmBack.Pure) (a0_0 : Bool) (a0_1 : Int) (a0_2 : Int) (a0_3 : Int) (a0_4 : ByteArray) (a1 : Int) (a2 : ByteArray) (w : World) (w0_0 : (Lit.int .u8 a0_1).wf = true) (w0_1 : (Lit.int .u32 a0_2).wf = true) (w0_2 : (Lit.int .u16 a0_3).wf = true) (w0_3 : a0_4.size ≤ 9223372036854775807) (w1_0 : (Lit.int .u8 a1).wf = true) (w2_0 : a2.size ≤ 140737488351232) :
    Calls Try.prog 4 #[.agg #[.bool a0_0, .int .u8 a0_1, .int .u32 a0_2, .int .u16 a0_3, .string a0_4], .int .u8 a1, .string a2] w fun e w' => e = .returned (.bool true) ∧ Below w.heap.size w w' := by
  obtain ⟨k, h⟩ := P a0_0 a0_1 a0_2 a0_3 a0_4 a1 a2 w0_0 w0_1 w0_2 w0_3 w1_0 w2_0
  refine (carousellaw06_CcmBack.calls k a0_0 a0_1 a0_2 a0_3 a0_4 a1 a2 true w h rfl).mono ?_
  rintro e w' ⟨rfl, hd⟩
  exact ⟨rfl, hd⟩

end Go.Proofs.Ytmdaaphjndjakag.PAll
