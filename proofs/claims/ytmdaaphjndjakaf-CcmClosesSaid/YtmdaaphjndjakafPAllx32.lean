-- Written by a program of this work, after the translation.
import Derived.Test.YtmdaaphjndjakafPAllx0
namespace Go.Proofs.Ytmdaaphjndjakaf.PAll
open Go.RowKit Go.Proofs.YtmdaaphjndjakafW.PrintWords Go.Proofs.YtmdaaphjndjakafW.PrintLast Go.Proofs.YtmdaaphjndjakafW.PrintMore
attribute [local go_sem] max2_int min2_int max_two min_two max_three min_three max_four min_four   -- for this text's walks alone
set_option linter.unusedVariables false
set_option linter.unusedSimpArgs false

/-! ### carouselref04_Close: function 55 -/
def carouselref04_Close.j0 : Nat → ByteArray → Bool → Int → Int → Int → Int → Int → Option (ByteArray × Int)
  | 0, _, _, _, _, _, _, _ => none
  | k + 1, x1, x13, x370000, x370001, x370002, x370003, x370004 => if x13 = true then (some ((⟨#[]⟩ : ByteArray), 4)) else (if (x1.size : Int) = (wrap64 (x370004)) then ((some (([(((x370000 * 32) % 256) + x370001) % 256, x370002, x370003, x370004] : List Int) : List Int)).bind fun y370 => (if (strOfNums y370).size + x1.size ≤ 9223372036854775807 then (if (strOfNums y370).size + x1.size + 1 ≤ 9223372036854775807 then (some (((strOfNums y370) ++ x1) ++ (⟨#[0]⟩ : ByteArray), 0)) else (none)) else (none))) else (some ((⟨#[]⟩ : ByteArray), 3)))
def carouselref04_Close.f (k : Nat) (a0_0 : Int) (a0_1 : Int) (a0_2 : Int) (a0_3 : Int) (a0_4 : Int) (a1 : ByteArray) : Option (ByteArray × Int) := if a0_0 > 7 then (carouselref04_Close.j0 k a1 true a0_0 a0_1 a0_2 a0_3 a0_4) else (carouselref04_Close.j0 k a1 (decide (a0_1 > 31)) a0_0 a0_1 a0_2 a0_3 a0_4)
theorem carouselref04_Close.mono_l : ∀ k, (∀ y0 y1 y2 y3 y4 y5 y6, LeO (carouselref04_Close.j0 k y0 y1 y2 y3 y4 y5 y6) (carouselref04_Close.j0 (k + 1) y0 y1 y2 y3 y4 y5 y6))
  | 0 => fun _ _ _ _ _ _ _ r h => by simp [carouselref04_Close.j0] at h
  | k + 1 => by
    have ih0 := carouselref04_Close.mono_l k
    · intro y0 y1 y2 y3 y4 y5 y6
      unfold carouselref04_Close.j0
      repeat' first
      | (with_reducible exact ih0 _ _ _ _ _ _ _)
      | (with_reducible exact LeO.refl _)
      | (with_reducible exact LeO.none _)
      | (with_reducible refine LeO.ite ?_ ?_)
      | (with_reducible refine LeO.bind ?_ (fun _ => ?_))
      | exact ih0 _ _ _ _ _ _ _
      | exact LeO.none _
      | refine LeO.ite ?_ ?_
      | refine LeO.bind ?_ (fun _ => ?_)
theorem carouselref04_Close.mono : ∀ a0 a1 a2 a3 a4 a5 k, LeO (carouselref04_Close.f k a0 a1 a2 a3 a4 a5) (carouselref04_Close.f (k + 1) a0 a1 a2 a3 a4 a5) := by
  intro a0 a1 a2 a3 a4 a5 k
  have ih0 := carouselref04_Close.mono_l k
  unfold carouselref04_Close.f
  repeat' first
      | (with_reducible exact ih0 _ _ _ _ _ _ _)
      | (with_reducible exact LeO.refl _)
      | (with_reducible exact LeO.none _)
      | (with_reducible refine LeO.ite ?_ ?_)
      | (with_reducible refine LeO.bind ?_ (fun _ => ?_))
      | exact ih0 _ _ _ _ _ _ _
      | exact LeO.none _
      | refine LeO.ite ?_ ?_
      | refine LeO.bind ?_ (fun _ => ?_)
set_option maxHeartbeats 8000000 in
set_option maxRecDepth 100000 in
theorem carouselref04_Close.calls (k : Nat) (a0_0 : Int) (a0_1 : Int) (a0_2 : Int) (a0_3 : Int) (a0_4 : Int) (a1 : ByteArray) (r1 : ByteArray) (r2 : Int) (w : World) (h : carouselref04_Close.f k a0_0 a0_1 a0_2 a0_3 a0_4 a1 = some (r1, r2)) :
    Calls Try.prog 55 #[.agg #[.int .u8 a0_0, .int .u8 a0_1, .int .u8 a0_2, .int .u8 a0_3, .int .u8 a0_4], .string a1] w fun e w' => e = .returned (.tuple #[.string r1, .int .i64 r2]) ∧ Below w.heap.size w w' := by
  have hu87 := Try.underlying87
  have HB := Aside0.mk (Below.refl w.heap.size w)
  have H : (if a0_0 > 7 then (carouselref04_Close.j0 k a1 true a0_0 a0_1 a0_2 a0_3 a0_4) else (carouselref04_Close.j0 k a1 (decide (a0_1 > 31)) a0_0 a0_1 a0_2 a0_3 a0_4)) = some (r1, r2) := h
  clear h
  have HC3 := Aside0.mk H
  clear H
  go_enter Try.func55, Try.ntmps55
  go_upto_region 1 with (first | ((with_reducible refine gate_dst (N := 2) rfl ?_); refine box_event ?hg (N := 2) ?hd (cs := #[.int .u8 a0_0, .int .u8 a0_1, .int .u8 a0_2, .int .u8 a0_3, .int .u8 a0_4]) (t := 87) ?hr ?_; (case hd => rfl); (case hg => rfl); (case hr => first | (go_simp; done) | (go_simp; rfl)); intro gb369 hg w4 hbox hb; have n0_ := Aside0.mk (below_step (by repeat (first | (with_reducible first | exact HB.out | apply below_alloc | apply pw_below_drewN | apply below_drew1) | exact HB.out)) hb); have n1_ := Aside0.mk (hbox); have n2_ := Aside0.mk ((by rw [hg]; exact (below_size (by repeat (first | (with_reducible first | exact HB.out | apply below_alloc | apply pw_below_drewN | apply below_drew1) | exact HB.out))) : w.heap.size ≤ gb369)); have n3_ := Aside0.mk ((by rw [hg]; exact (below_size (by repeat (first | (with_reducible first | exact HB.out | apply below_alloc | apply pw_below_drewN | apply below_drew1) | exact HB.out))) : w.heap.size ≤ gb369)); clear HB; have HB := n0_; have BK369 := n1_; have GW369 := n2_; have GE369 := n3_; clear n0_ n1_ n2_ n3_; clear hb hbox hg))
  (try simp only [Act.put, List.setIfInBounds_toArray, List.set_cons_zero, List.set_cons_succ])
  go_cut [13] (fun v13 wc => ∃ (kq : Nat) (x13_2 : Bool), v13 = .bool x13_2 ∧ Aside0 (carouselref04_Close.j0 kq a1 x13_2 a0_0 a0_1 a0_2 a0_3 a0_4 = some (r1, r2)) ∧ Aside0 (kq ≤ k) ∧ Aside0 (wc.heap[gb369]? = some (.cells #[.int .u8 a0_0, .int .u8 a0_1, .int .u8 a0_2, .int .u8 a0_3, .int .u8 a0_4] 87 (0, 0))) ∧ Aside0 (Below w.heap.size w wc))
  case first =>
    have H := HC3.out
    clear HC3
    by_cases c5 : a0_0 > 7
    · rw [if_pos c5] at H
      have c5b0 : decide (7 < a0_0) = true := decide_eq_true c5
      clear c5
      (first | rw [c5b0] | (simp only [i64_w, i32_w]; rw [c5b0]) | skip)
      have H' := Aside0.mk H
      clear H
      have hcz6_0 : w4.cell? ⟨gb369, 0, none⟩ = some (.int .u8 a0_0) := (blk_cell BK369.out 0).trans rfl
      have hcz6_1 : w4.cell? ⟨gb369, 1, none⟩ = some (.int .u8 a0_1) := (blk_cell BK369.out 1).trans rfl
      have hcz6_2 : w4.cell? ⟨gb369, 2, none⟩ = some (.int .u8 a0_2) := (blk_cell BK369.out 2).trans rfl
      have hcz6_3 : w4.cell? ⟨gb369, 3, none⟩ = some (.int .u8 a0_3) := (blk_cell BK369.out 3).trans rfl
      have hcz6_4 : w4.cell? ⟨gb369, 4, none⟩ = some (.int .u8 a0_4) := (blk_cell BK369.out 4).trans rfl
      have hfz6_0 := blk_frozen BK369.out 0
      have hfz6_1 := blk_frozen BK369.out 1
      have hfz6_2 := blk_frozen BK369.out 2
      have hfz6_3 := blk_frozen BK369.out 3
      have hfz6_4 := blk_frozen BK369.out 4
      go_wp2
      go_meet
      case rel => exact ⟨_, (true), (by first | rfl | (simp; done) | (simp [*]; done)), H', ⟨by first | omega | exact Nat.le_refl _⟩, ⟨by (with_reducible repeat (first | refine blk_drewN ?_ _ | refine blk_drew ?_ | refine blk_alloc ?_ _)); exact BK369.out⟩, ⟨by repeat (first | (with_reducible first | exact HB.out | apply below_alloc | apply pw_below_drewN | apply below_drew1 | refine below_set ?_ GE369.out) | exact HB.out)⟩⟩
    · rw [if_neg c5] at H
      have c5b0 : decide (7 < a0_0) = false := decide_eq_false c5
      clear c5
      (first | rw [c5b0] | (simp only [i64_w, i32_w]; rw [c5b0]) | skip)
      have H' := Aside0.mk H
      clear H
      have hcz7_0 : w4.cell? ⟨gb369, 0, none⟩ = some (.int .u8 a0_0) := (blk_cell BK369.out 0).trans rfl
      have hcz7_1 : w4.cell? ⟨gb369, 1, none⟩ = some (.int .u8 a0_1) := (blk_cell BK369.out 1).trans rfl
      have hcz7_2 : w4.cell? ⟨gb369, 2, none⟩ = some (.int .u8 a0_2) := (blk_cell BK369.out 2).trans rfl
      have hcz7_3 : w4.cell? ⟨gb369, 3, none⟩ = some (.int .u8 a0_3) := (blk_cell BK369.out 3).trans rfl
      have hcz7_4 : w4.cell? ⟨gb369, 4, none⟩ = some (.int .u8 a0_4) := (blk_cell BK369.out 4).trans rfl
      have hfz7_0 := blk_frozen BK369.out 0
      have hfz7_1 := blk_frozen BK369.out 1
      have hfz7_2 := blk_frozen BK369.out 2
      have hfz7_3 := blk_frozen BK369.out 3
      have hfz7_4 := blk_frozen BK369.out 4
      go_wp2
      go_meet
      case rel => exact ⟨_, (decide (a0_1 > 31)), (by first | rfl | (simp; done) | (simp [*]; done)), H', ⟨by first | omega | exact Nat.le_refl _⟩, ⟨by (with_reducible repeat (first | refine blk_drewN ?_ _ | refine blk_drew ?_ | refine blk_alloc ?_ _)); exact BK369.out⟩, ⟨by repeat (first | (with_reducible first | exact HB.out | apply below_alloc | apply pw_below_drewN | apply below_drew1 | refine below_set ?_ GE369.out) | exact HB.out)⟩⟩
  case rest =>
    clear HC3
    try clear p2
    try clear c5
    try clear c5b0
    try clear hcz6_0
    try clear hcz6_1
    try clear hcz6_2
    try clear hcz6_3
    try clear hcz6_4
    try clear hcz7_0
    try clear hcz7_1
    try clear hcz7_2
    try clear hcz7_3
    try clear hcz7_4
    try clear hfz6_0
    try clear hfz6_1
    try clear hfz6_2
    try clear hfz6_3
    try clear hfz6_4
    try clear hfz7_0
    try clear hfz7_1
    try clear hfz7_2
    try clear hfz7_3
    try clear hfz7_4
    obtain ⟨kq, x13_2, rfl, HA, HJ2, BK369, HB⟩ := hcut
    cases kq with
    | zero => exact absurd HA.out (by simp [carouselref04_Close.j0])
    | succ kj2 =>
      have H := HA.out
      clear HA
      simp only [carouselref04_Close.j0] at H
      by_cases c8 : x13_2 = true
      · subst c8
        have H1 : (some ((⟨#[]⟩ : ByteArray), 4)) = some (r1, r2) := by rw [if_pos rfl] at H; exact H
        clear H
        have H := H1
        clear H1
        simp only [Option.some.injEq, Prod.mk.injEq] at H
        obtain ⟨rfl, rfl⟩ := H
        go_wp2
        go_ret2
        exact ⟨by first | rfl | (simp [errW_none, errW_some] <;> rfl) | (simp [*, errW_none, errW_some] <;> rfl), by repeat (first | (with_reducible first | exact HB.out | apply below_alloc | apply pw_below_drewN | apply below_drew1 | refine below_set ?_ GE369.out) | exact HB.out)⟩
      · replace c8 := Bool.eq_false_iff.mpr c8
        subst c8
        have H1 : (if (a1.size : Int) = (wrap64 (a0_4)) then ((some (([(((a0_0 * 32) % 256) + a0_1) % 256, a0_2, a0_3, a0_4] : List Int) : List Int)).bind fun y370 => (if (strOfNums y370).size + a1.size ≤ 9223372036854775807 then (if (strOfNums y370).size + a1.size + 1 ≤ 9223372036854775807 then (some (((strOfNums y370) ++ a1) ++ (⟨#[0]⟩ : ByteArray), 0)) else (none)) else (none))) else (some ((⟨#[]⟩ : ByteArray), 3))) = some (r1, r2) := by rw [if_neg (show ¬ (false = true) by decide)] at H; exact H
        clear H
        have H := H1
        clear H1
        by_cases c9 : (a1.size : Int) = (wrap64 (a0_4))
        · rw [if_pos c9] at H
          have c9b0 : ((a1.size : Int) == (wrap64 (a0_4))) = true := beq_iff_eq.mpr c9
          have c9b1 : ((a1.size : Int) != (wrap64 (a0_4))) = false := bne_eq_false_iff_eq.mpr c9
          clear c9
          obtain ⟨y370, hy370⟩ : ∃ y_ : List Int, y_ = (([(((a0_0 * 32) % 256) + a0_1) % 256, a0_2, a0_3, a0_4] : List Int)) := ⟨_, rfl⟩
          replace H : (if (strOfNums y370).size + a1.size ≤ 9223372036854775807 then (if (strOfNums y370).size + a1.size + 1 ≤ 9223372036854775807 then (some (((strOfNums y370) ++ a1) ++ (⟨#[0]⟩ : ByteArray), 0)) else (none)) else (none)) = some (r1, r2) := by first | (rw [hy370]; with_reducible exact H) | (have H2_ := (Option.bind_some _ _).symm.trans H; rw [hy370]; with_reducible exact H2_) | (have H2_ := (Option.bind_some _ _).symm.trans H; with_reducible exact H2_) | with_reducible exact H | (rw [hy370]; exact H) | exact H
          have Ny370 := Aside0.mk hy370
          clear hy370
          by_cases c10 : (strOfNums y370).size + a1.size ≤ 9223372036854775807
          · rw [if_pos c10] at H
            have c10b0 := eq_true c10
            have c10b1 : decide ((strOfNums y370).size + a1.size ≤ 9223372036854775807) = true := decide_eq_true c10
            try have c10b2 : (9223372036854775807 < (strOfNums y370).size + a1.size) = False := eq_false (Nat.not_lt.2 c10)
            by_cases c11 : (strOfNums y370).size + a1.size + 1 ≤ 9223372036854775807
            · rw [if_pos c11] at H
              have c11b0 := eq_true c11
              have c11b1 : decide ((strOfNums y370).size + a1.size + 1 ≤ 9223372036854775807) = true := decide_eq_true c11
              try have c11b2 : (9223372036854775807 < (strOfNums y370).size + a1.size + 1) = False := eq_false (Nat.not_lt.2 c11)
              simp only [Option.some.injEq, Prod.mk.injEq] at H
              obtain ⟨rfl, rfl⟩ := H
              have hcz12_0 : wc.cell? ⟨gb369, 0, none⟩ = some (.int .u8 a0_0) := (blk_cell BK369.out 0).trans rfl
              have hcz12_1 : wc.cell? ⟨gb369, 1, none⟩ = some (.int .u8 a0_1) := (blk_cell BK369.out 1).trans rfl
              have hcz12_2 : wc.cell? ⟨gb369, 2, none⟩ = some (.int .u8 a0_2) := (blk_cell BK369.out 2).trans rfl
              have hcz12_3 : wc.cell? ⟨gb369, 3, none⟩ = some (.int .u8 a0_3) := (blk_cell BK369.out 3).trans rfl
              have hcz12_4 : wc.cell? ⟨gb369, 4, none⟩ = some (.int .u8 a0_4) := (blk_cell BK369.out 4).trans rfl
              have hfz12_0 := blk_frozen BK369.out 0
              have hfz12_1 := blk_frozen BK369.out 1
              have hfz12_2 := blk_frozen BK369.out 2
              have hfz12_3 := blk_frozen BK369.out 3
              have hfz12_4 := blk_frozen BK369.out 4
              go_wp2_with (first | ((with_reducible refine gate_dst (N := 32) rfl ?_); refine Kd.R_lit (Kd.int .u8) _ 5 ?hg (N := 32) ?hd (xs := ([(((a0_0 * 32) % 256) + a0_1) % 256, a0_2, a0_3, a0_4] : List Int)) (inner := [.int .u8 ((((a0_0 * 32) % 256) + a0_1) % 256), .int .u8 a0_2, .int .u8 a0_3, .int .u8 a0_4]) (ok := fun _ => True) (okp := fun _ => True) ?hr ?hp (fun _ hk => hk) trivial (Below.refl _ _) (Nat.le_refl _) (by simp) ?_; (case hd => rfl); (case hg => rfl); (case hr => first | (go_simp; done) | (go_simp; rfl)); (case hp => exact (Reps.one (show Kd.M (Kd.int .u8) _ _ _ ((((a0_0 * 32) % 256) + a0_1) % 256) [.int .u8 ((((a0_0 * 32) % 256) + a0_1) % 256)] from rfl) (Reps.one (show Kd.M (Kd.int .u8) _ _ _ a0_2 [.int .u8 a0_2] from rfl) (Reps.one (show Kd.M (Kd.int .u8) _ _ _ a0_3 [.int .u8 a0_3] from rfl) (Reps.one (show Kd.M (Kd.int .u8) _ _ _ a0_4 [.int .u8 a0_4] from rfl) (Reps.none _ _)))))); intro v371 w13 ho14 hb hg_ hnew_; clear hg_ hnew_; (first | rw [← Ny370.out] at ho14 | (simp only [Int.reduceToNat] at ho14; rw [← Ny370.out] at ho14)); have n0_ := Aside0.mk (Kd.R_lower ho14 (below_size (by repeat (first | (with_reducible first | exact HB.out | apply below_alloc | apply pw_below_drewN | apply below_drew1 | refine below_set ?_ GE369.out) | exact HB.out)))); have n1_ := Aside0.mk (blk_below (g := gb369) (o := .cells #[.int .u8 a0_0, .int .u8 a0_1, .int .u8 a0_2, .int .u8 a0_3, .int .u8 a0_4] 87 (0, 0)) (by (with_reducible repeat (first | refine blk_drewN ?_ _ | refine blk_drew ?_ | refine blk_alloc ?_ _)); exact BK369.out) hb); have n2_ := Aside0.mk (below_step (by repeat (first | (with_reducible first | exact HB.out | apply below_alloc | apply pw_below_drewN | apply below_drew1 | refine below_set ?_ GE369.out) | exact HB.out)) hb); clear BK369; clear HB; have HO372 := n0_; have BK369 := n1_; have HB := n2_; clear n0_ n1_ n2_; clear hb ho14; have hcv15 := own_string (P := Try.prog) Try.underlying79 Try.underlying5 Try.underlying9 (Kd.own_of_R HO372.out)))
              go_ret2
              exact ⟨by first | rfl | (simp [errW_none, errW_some] <;> rfl) | (simp [*, errW_none, errW_some] <;> rfl), by repeat (first | (with_reducible first | exact HB.out | apply below_alloc | apply pw_below_drewN | apply below_drew1 | refine below_set ?_ GE369.out) | exact HB.out)⟩
            · rw [if_neg c11] at H
              exact absurd H (by simp)
          · rw [if_neg c10] at H
            exact absurd H (by simp)
        · rw [if_neg c9] at H
          have c9b0 : ((a1.size : Int) == (wrap64 (a0_4))) = false := beq_eq_false_iff_ne.mpr c9
          have c9b1 : ((a1.size : Int) != (wrap64 (a0_4))) = true := bne_iff_ne.mpr c9
          simp only [Option.some.injEq, Prod.mk.injEq] at H
          obtain ⟨rfl, rfl⟩ := H
          have hcz16_0 : wc.cell? ⟨gb369, 0, none⟩ = some (.int .u8 a0_0) := (blk_cell BK369.out 0).trans rfl
          have hcz16_1 : wc.cell? ⟨gb369, 1, none⟩ = some (.int .u8 a0_1) := (blk_cell BK369.out 1).trans rfl
          have hcz16_2 : wc.cell? ⟨gb369, 2, none⟩ = some (.int .u8 a0_2) := (blk_cell BK369.out 2).trans rfl
          have hcz16_3 : wc.cell? ⟨gb369, 3, none⟩ = some (.int .u8 a0_3) := (blk_cell BK369.out 3).trans rfl
          have hcz16_4 : wc.cell? ⟨gb369, 4, none⟩ = some (.int .u8 a0_4) := (blk_cell BK369.out 4).trans rfl
          have hfz16_0 := blk_frozen BK369.out 0
          have hfz16_1 := blk_frozen BK369.out 1
          have hfz16_2 := blk_frozen BK369.out 2
          have hfz16_3 := blk_frozen BK369.out 3
          have hfz16_4 := blk_frozen BK369.out 4
          go_wp2
          go_ret2
          exact ⟨by first | rfl | (simp [errW_none, errW_some] <;> rfl) | (simp [*, errW_none, errW_some] <;> rfl), by repeat (first | (with_reducible first | exact HB.out | apply below_alloc | apply pw_below_drewN | apply below_drew1 | refine below_set ?_ GE369.out) | exact HB.out)⟩

end Go.Proofs.Ytmdaaphjndjakaf.PAll
