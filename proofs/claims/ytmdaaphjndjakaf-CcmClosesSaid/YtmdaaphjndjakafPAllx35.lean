-- Written by a program of this work, after the translation.
import Derived.Test.YtmdaaphjndjakafPAllx0
import Derived.Test.YtmdaaphjndjakafPAllx32
import Derived.Test.YtmdaaphjndjakafPAllx34
namespace Go.Proofs.Ytmdaaphjndjakaf.PAll
open Go.RowKit Go.Proofs.YtmdaaphjndjakafW.PrintWords Go.Proofs.YtmdaaphjndjakafW.PrintLast Go.Proofs.YtmdaaphjndjakafW.PrintMore
attribute [local go_sem] max2_int min2_int max_two min_two max_three min_three max_four min_four   -- for this text's walks alone
set_option linter.unusedVariables false
set_option linter.unusedSimpArgs false

/-! ### carouselref06_Close: function 27 -/
mutual
def carouselref06_Close.j0 : Nat → Int → Bool → Bool → Int → Int → Int → ByteArray → Option (ByteArray × Int)
  | 0, _, _, _, _, _, _, _ => none
  | k + 1, x1, x28, x394000, x394001, x394002, x394003, x394004 => if x28 = true then (some ((⟨#[]⟩ : ByteArray), 4)) else (if (x394004.size : Int) = 48 then (if x394000 = true then (carouselref06_Close.j1 k x1 ((x394001 + 128) % 256) x394000 x394001 x394002 x394003 x394004) else (carouselref06_Close.j1 k x1 x394001 x394000 x394001 x394002 x394003 x394004)) else (some ((⟨#[]⟩ : ByteArray), 3)))
def carouselref06_Close.j1 : Nat → Int → Int → Bool → Int → Int → Int → ByteArray → Option (ByteArray × Int)
  | 0, _, _, _, _, _, _, _ => none
  | k + 1, x1, x6, x394000, x394001, x394002, x394003, x394004 => (carouselref01_Put.f k (IntKind.u64.wrap (x394002)) 4).bind fun t394 => ((carouselref01_Put.f k (IntKind.u64.wrap (x394003)) 2).bind fun t395 => (if t394.size + t395.size ≤ 9223372036854775807 then (if t394.size + t395.size + x394004.size ≤ 9223372036854775807 then (if 16 ≤ 281474976710656 then ((some (List.replicate 16 0 : List Int)).bind fun y396 => (if t394.size + t395.size + x394004.size + (strOfNums y396).size ≤ 9223372036854775807 then ((carouselref04_Close.f k x1 0 1 x6 70 (((t394 ++ t395) ++ x394004) ++ (strOfNums y396))).bind fun bt399 => (some (bt399.1, bt399.2))) else (none))) else (none)) else (none)) else (none)))
end
def carouselref06_Close.f (k : Nat) (a0_0 : Bool) (a0_1 : Int) (a0_2 : Int) (a0_3 : Int) (a0_4 : ByteArray) (a1 : Int) : Option (ByteArray × Int) := if a1 > 7 then (carouselref06_Close.j0 k a1 true a0_0 a0_1 a0_2 a0_3 a0_4) else (if a0_1 = 0 then (carouselref06_Close.j0 k a1 true a0_0 a0_1 a0_2 a0_3 a0_4) else (if a0_1 > 7 then (carouselref06_Close.j0 k a1 true a0_0 a0_1 a0_2 a0_3 a0_4) else (if a0_3 = 0 then (carouselref06_Close.j0 k a1 true a0_0 a0_1 a0_2 a0_3 a0_4) else (carouselref06_Close.j0 k a1 (decide (a0_3 > 8191)) a0_0 a0_1 a0_2 a0_3 a0_4))))
theorem carouselref06_Close.mono_l : ∀ k, (∀ y0 y1 y2 y3 y4 y5 y6, LeO (carouselref06_Close.j0 k y0 y1 y2 y3 y4 y5 y6) (carouselref06_Close.j0 (k + 1) y0 y1 y2 y3 y4 y5 y6)) ∧ (∀ y0 y1 y2 y3 y4 y5 y6, LeO (carouselref06_Close.j1 k y0 y1 y2 y3 y4 y5 y6) (carouselref06_Close.j1 (k + 1) y0 y1 y2 y3 y4 y5 y6))
  | 0 => ⟨fun _ _ _ _ _ _ _ r h => by simp [carouselref06_Close.j0] at h, fun _ _ _ _ _ _ _ r h => by simp [carouselref06_Close.j1] at h⟩
  | k + 1 => by
    obtain ⟨ih0, ih1⟩ := carouselref06_Close.mono_l k
    refine ⟨?_, ?_⟩
    · intro y0 y1 y2 y3 y4 y5 y6
      unfold carouselref06_Close.j0
      repeat' first
      | (with_reducible exact ih0 _ _ _ _ _ _ _)
      | (with_reducible exact ih1 _ _ _ _ _ _ _)
      | (with_reducible exact carouselref01_Put.mono _ _ _)
      | (with_reducible exact carouselref04_Close.mono _ _ _ _ _ _ _)
      | (with_reducible exact LeO.refl _)
      | (with_reducible exact LeO.none _)
      | (with_reducible refine LeO.ite ?_ ?_)
      | (with_reducible refine LeO.bind ?_ (fun _ => ?_))
      | exact ih0 _ _ _ _ _ _ _
      | exact ih1 _ _ _ _ _ _ _
      | exact carouselref01_Put.mono _ _ _
      | exact carouselref04_Close.mono _ _ _ _ _ _ _
      | exact LeO.none _
      | refine LeO.ite ?_ ?_
      | refine LeO.bind ?_ (fun _ => ?_)
    · intro y0 y1 y2 y3 y4 y5 y6
      unfold carouselref06_Close.j1
      repeat' first
      | (with_reducible exact ih0 _ _ _ _ _ _ _)
      | (with_reducible exact ih1 _ _ _ _ _ _ _)
      | (with_reducible exact carouselref01_Put.mono _ _ _)
      | (with_reducible exact carouselref04_Close.mono _ _ _ _ _ _ _)
      | (with_reducible exact LeO.refl _)
      | (with_reducible exact LeO.none _)
      | (with_reducible refine LeO.ite ?_ ?_)
      | (with_reducible refine LeO.bind ?_ (fun _ => ?_))
      | exact ih0 _ _ _ _ _ _ _
      | exact ih1 _ _ _ _ _ _ _
      | exact carouselref01_Put.mono _ _ _
      | exact carouselref04_Close.mono _ _ _ _ _ _ _
      | exact LeO.none _
      | refine LeO.ite ?_ ?_
      | refine LeO.bind ?_ (fun _ => ?_)
theorem carouselref06_Close.mono : ∀ a0 a1 a2 a3 a4 a5 k, LeO (carouselref06_Close.f k a0 a1 a2 a3 a4 a5) (carouselref06_Close.f (k + 1) a0 a1 a2 a3 a4 a5) := by
  intro a0 a1 a2 a3 a4 a5 k
  obtain ⟨ih0, ih1⟩ := carouselref06_Close.mono_l k
  unfold carouselref06_Close.f
  repeat' first
      | (with_reducible exact ih0 _ _ _ _ _ _ _)
      | (with_reducible exact ih1 _ _ _ _ _ _ _)
      | (with_reducible exact carouselref01_Put.mono _ _ _)
      | (with_reducible exact carouselref04_Close.mono _ _ _ _ _ _ _)
      | (with_reducible exact LeO.refl _)
      | (with_reducible exact LeO.none _)
      | (with_reducible refine LeO.ite ?_ ?_)
      | (with_reducible refine LeO.bind ?_ (fun _ => ?_))
      | exact ih0 _ _ _ _ _ _ _
      | exact ih1 _ _ _ _ _ _ _
      | exact carouselref01_Put.mono _ _ _
      | exact carouselref04_Close.mono _ _ _ _ _ _ _
      | exact LeO.none _
      | refine LeO.ite ?_ ?_
      | refine LeO.bind ?_ (fun _ => ?_)
def carouselref06_Close.T8 : Bool × List (List Nat × List Nat) := (true, [([], []), ([], []), ([0, 1], [0, 1]), ([], []), ([3], [3]), ([4], [4]), ([5], [5]), ([], []), ([7], [7]), ([8], [8]), ([9, 6], [9]), ([6, 10], [6, 10]), ([], []), ([12], [12]), ([11, 13], [11, 13]), ([], []), ([15], [15]), ([14, 16], [14, 16]), ([2, 17, 10], [2, 17]), ([18], [18]), ([18], [18]), ([19, 18, 0, 1, 2, 3, 4, 5, 6, 7, 8, 9, 10, 11, 12, 13, 14, 15, 16, 17, 18, 19, 20], [19]), ([20, 21, 0, 1, 2, 3, 4, 5, 6, 7, 8, 9, 10, 11, 12, 13, 14, 15, 16, 17, 18, 19, 20, 21], [20])])
def carouselref06_Close.B8 : List Nat := [0, 0, 3, 0, 8, 24, 56, 0, 128, 384, 1016, 2040, 0, 4096, 16376, 0, 32768, 131064, 262143, 524287, 524287, 2097151, 4194303]
theorem carouselref06_Close.tab8 : rtab .any (opsOf Try.f27 8) = carouselref06_Close.T8 := by kernel_rfl
theorem carouselref06_Close.bits8 : waitsOk carouselref06_Close.T8.2 carouselref06_Close.B8 = true := by kernel_rfl
set_option maxHeartbeats 8000000 in
set_option maxRecDepth 100000 in
theorem carouselref06_Close.calls (k : Nat) (a0_0 : Bool) (a0_1 : Int) (a0_2 : Int) (a0_3 : Int) (a0_4 : ByteArray) (a1 : Int) (r1 : ByteArray) (r2 : Int) (w : World) (h : carouselref06_Close.f k a0_0 a0_1 a0_2 a0_3 a0_4 a1 = some (r1, r2)) :
    Calls Try.prog 27 #[.agg #[.bool a0_0, .int .u8 a0_1, .int .u32 a0_2, .int .u16 a0_3, .string a0_4], .int .u8 a1] w fun e w' => e = .returned (.tuple #[.string r1, .int .i64 r2]) ∧ Below w.heap.size w w' := by
  have hu59 := Try.underlying59
  have hu87 := Try.underlying87
  have HB := Aside0.mk (Below.refl w.heap.size w)
  have H : (if a1 > 7 then (carouselref06_Close.j0 k a1 true a0_0 a0_1 a0_2 a0_3 a0_4) else (if a0_1 = 0 then (carouselref06_Close.j0 k a1 true a0_0 a0_1 a0_2 a0_3 a0_4) else (if a0_1 > 7 then (carouselref06_Close.j0 k a1 true a0_0 a0_1 a0_2 a0_3 a0_4) else (if a0_3 = 0 then (carouselref06_Close.j0 k a1 true a0_0 a0_1 a0_2 a0_3 a0_4) else (carouselref06_Close.j0 k a1 (decide (a0_3 > 8191)) a0_0 a0_1 a0_2 a0_3 a0_4))))) = some (r1, r2) := h
  clear h
  have HC3 := Aside0.mk H
  clear H
  go_enter Try.func27, Try.ntmps27
  go_upto_region 1 with (first | ((with_reducible refine gate_dst (N := 2) rfl ?_); refine box_event ?hg (N := 2) ?hd (cs := #[.bool a0_0, .int .u8 a0_1, .int .u32 a0_2, .int .u16 a0_3, .string a0_4]) (t := 59) ?hr ?_; (case hd => rfl); (case hg => rfl); (case hr => first | (go_simp; done) | (go_simp; rfl)); intro gb393 hg w4 hbox hb; have n0_ := Aside0.mk (below_step (by repeat (first | (with_reducible first | exact HB.out | apply below_alloc | apply pw_below_drewN | apply below_drew1) | exact HB.out)) hb); have n1_ := Aside0.mk (hbox); have n2_ := Aside0.mk ((by rw [hg]; exact (below_size (by repeat (first | (with_reducible first | exact HB.out | apply below_alloc | apply pw_below_drewN | apply below_drew1) | exact HB.out))) : w.heap.size ≤ gb393)); have n3_ := Aside0.mk ((by rw [hg]; exact (below_size (by repeat (first | (with_reducible first | exact HB.out | apply below_alloc | apply pw_below_drewN | apply below_drew1) | exact HB.out))) : w.heap.size ≤ gb393)); clear HB; have HB := n0_; have BK393 := n1_; have GW393 := n2_; have GE393 := n3_; clear n0_ n1_ n2_ n3_; clear hb hbox hg))
  (try simp only [Act.put, List.setIfInBounds_toArray, List.set_cons_zero, List.set_cons_succ])
  go_cut [28] (fun v28 wc => ∃ (kq : Nat) (x28_2 : Bool), v28 = .bool x28_2 ∧ Aside0 (carouselref06_Close.j0 kq a1 x28_2 a0_0 a0_1 a0_2 a0_3 a0_4 = some (r1, r2)) ∧ Aside0 (kq ≤ k) ∧ Aside0 (wc.heap[gb393]? = some (.cells #[.bool a0_0, .int .u8 a0_1, .int .u32 a0_2, .int .u16 a0_3, .string a0_4] 59 (0, 0))) ∧ Aside0 (Below w.heap.size w wc))
  case first =>
    have H := HC3.out
    clear HC3
    by_cases c5 : a1 > 7
    · rw [if_pos c5] at H
      have c5b0 : decide (7 < a1) = true := decide_eq_true c5
      clear c5
      (first | rw [c5b0] | (simp only [i64_w, i32_w]; rw [c5b0]) | skip)
      have H' := Aside0.mk H
      clear H
      go_wp2
      go_meet
      case rel => exact ⟨_, (true), (by first | rfl | (simp; done) | (simp [*]; done)), H', ⟨by first | omega | exact Nat.le_refl _⟩, ⟨by (with_reducible repeat (first | refine blk_drewN ?_ _ | refine blk_drew ?_ | refine blk_alloc ?_ _)); exact BK393.out⟩, ⟨by repeat (first | (with_reducible first | exact HB.out | apply below_alloc | apply pw_below_drewN | apply below_drew1 | refine below_set ?_ GE393.out) | exact HB.out)⟩⟩
    · rw [if_neg c5] at H
      have c5b0 : decide (7 < a1) = false := decide_eq_false c5
      clear c5
      (first | rw [c5b0] | (simp only [i64_w, i32_w]; rw [c5b0]) | skip)
      by_cases c6 : a0_1 = 0
      · rw [if_pos c6] at H
        have c6b0 : (a0_1 == 0) = true := beq_iff_eq.mpr c6
        have c6b1 : (a0_1 != 0) = false := bne_eq_false_iff_eq.mpr c6
        clear c6
        have H' := Aside0.mk H
        clear H
        have hcz7_0 : w4.cell? ⟨gb393, 0, none⟩ = some (.bool a0_0) := (blk_cell BK393.out 0).trans rfl
        have hcz7_1 : w4.cell? ⟨gb393, 1, none⟩ = some (.int .u8 a0_1) := (blk_cell BK393.out 1).trans rfl
        have hcz7_2 : w4.cell? ⟨gb393, 2, none⟩ = some (.int .u32 a0_2) := (blk_cell BK393.out 2).trans rfl
        have hcz7_3 : w4.cell? ⟨gb393, 3, none⟩ = some (.int .u16 a0_3) := (blk_cell BK393.out 3).trans rfl
        have hcz7_4 : w4.cell? ⟨gb393, 4, none⟩ = some (.string a0_4) := (blk_cell BK393.out 4).trans rfl
        have hfz7_0 := blk_frozen BK393.out 0
        have hfz7_1 := blk_frozen BK393.out 1
        have hfz7_2 := blk_frozen BK393.out 2
        have hfz7_3 := blk_frozen BK393.out 3
        have hfz7_4 := blk_frozen BK393.out 4
        go_wp2
        go_meet
        case rel => exact ⟨_, (true), (by first | rfl | (simp; done) | (simp [*]; done)), H', ⟨by first | omega | exact Nat.le_refl _⟩, ⟨by (with_reducible repeat (first | refine blk_drewN ?_ _ | refine blk_drew ?_ | refine blk_alloc ?_ _)); exact BK393.out⟩, ⟨by repeat (first | (with_reducible first | exact HB.out | apply below_alloc | apply pw_below_drewN | apply below_drew1 | refine below_set ?_ GE393.out) | exact HB.out)⟩⟩
      · rw [if_neg c6] at H
        have c6b0 : (a0_1 == 0) = false := beq_eq_false_iff_ne.mpr c6
        have c6b1 : (a0_1 != 0) = true := bne_iff_ne.mpr c6
        by_cases c8 : a0_1 > 7
        · rw [if_pos c8] at H
          have c8b0 : decide (7 < a0_1) = true := decide_eq_true c8
          clear c8
          have H' := Aside0.mk H
          clear H
          have hcz9_0 : w4.cell? ⟨gb393, 0, none⟩ = some (.bool a0_0) := (blk_cell BK393.out 0).trans rfl
          have hcz9_1 : w4.cell? ⟨gb393, 1, none⟩ = some (.int .u8 a0_1) := (blk_cell BK393.out 1).trans rfl
          have hcz9_2 : w4.cell? ⟨gb393, 2, none⟩ = some (.int .u32 a0_2) := (blk_cell BK393.out 2).trans rfl
          have hcz9_3 : w4.cell? ⟨gb393, 3, none⟩ = some (.int .u16 a0_3) := (blk_cell BK393.out 3).trans rfl
          have hcz9_4 : w4.cell? ⟨gb393, 4, none⟩ = some (.string a0_4) := (blk_cell BK393.out 4).trans rfl
          have hfz9_0 := blk_frozen BK393.out 0
          have hfz9_1 := blk_frozen BK393.out 1
          have hfz9_2 := blk_frozen BK393.out 2
          have hfz9_3 := blk_frozen BK393.out 3
          have hfz9_4 := blk_frozen BK393.out 4
          go_wp2
          go_meet
          case rel => exact ⟨_, (true), (by first | rfl | (simp; done) | (simp [*]; done)), H', ⟨by first | omega | exact Nat.le_refl _⟩, ⟨by (with_reducible repeat (first | refine blk_drewN ?_ _ | refine blk_drew ?_ | refine blk_alloc ?_ _)); exact BK393.out⟩, ⟨by repeat (first | (with_reducible first | exact HB.out | apply below_alloc | apply pw_below_drewN | apply below_drew1 | refine below_set ?_ GE393.out) | exact HB.out)⟩⟩
        · rw [if_neg c8] at H
          have c8b0 : decide (7 < a0_1) = false := decide_eq_false c8
          clear c8
          by_cases c10 : a0_3 = 0
          · rw [if_pos c10] at H
            have c10b0 : (a0_3 == 0) = true := beq_iff_eq.mpr c10
            have c10b1 : (a0_3 != 0) = false := bne_eq_false_iff_eq.mpr c10
            clear c10
            have H' := Aside0.mk H
            clear H
            have hcz11_0 : w4.cell? ⟨gb393, 0, none⟩ = some (.bool a0_0) := (blk_cell BK393.out 0).trans rfl
            have hcz11_1 : w4.cell? ⟨gb393, 1, none⟩ = some (.int .u8 a0_1) := (blk_cell BK393.out 1).trans rfl
            have hcz11_2 : w4.cell? ⟨gb393, 2, none⟩ = some (.int .u32 a0_2) := (blk_cell BK393.out 2).trans rfl
            have hcz11_3 : w4.cell? ⟨gb393, 3, none⟩ = some (.int .u16 a0_3) := (blk_cell BK393.out 3).trans rfl
            have hcz11_4 : w4.cell? ⟨gb393, 4, none⟩ = some (.string a0_4) := (blk_cell BK393.out 4).trans rfl
            have hfz11_0 := blk_frozen BK393.out 0
            have hfz11_1 := blk_frozen BK393.out 1
            have hfz11_2 := blk_frozen BK393.out 2
            have hfz11_3 := blk_frozen BK393.out 3
            have hfz11_4 := blk_frozen BK393.out 4
            go_wp2
            go_meet
            case rel => exact ⟨_, (true), (by first | rfl | (simp; done) | (simp [*]; done)), H', ⟨by first | omega | exact Nat.le_refl _⟩, ⟨by (with_reducible repeat (first | refine blk_drewN ?_ _ | refine blk_drew ?_ | refine blk_alloc ?_ _)); exact BK393.out⟩, ⟨by repeat (first | (with_reducible first | exact HB.out | apply below_alloc | apply pw_below_drewN | apply below_drew1 | refine below_set ?_ GE393.out) | exact HB.out)⟩⟩
          · rw [if_neg c10] at H
            have c10b0 : (a0_3 == 0) = false := beq_eq_false_iff_ne.mpr c10
            have c10b1 : (a0_3 != 0) = true := bne_iff_ne.mpr c10
            have H' := Aside0.mk H
            clear H
            have hcz12_0 : w4.cell? ⟨gb393, 0, none⟩ = some (.bool a0_0) := (blk_cell BK393.out 0).trans rfl
            have hcz12_1 : w4.cell? ⟨gb393, 1, none⟩ = some (.int .u8 a0_1) := (blk_cell BK393.out 1).trans rfl
            have hcz12_2 : w4.cell? ⟨gb393, 2, none⟩ = some (.int .u32 a0_2) := (blk_cell BK393.out 2).trans rfl
            have hcz12_3 : w4.cell? ⟨gb393, 3, none⟩ = some (.int .u16 a0_3) := (blk_cell BK393.out 3).trans rfl
            have hcz12_4 : w4.cell? ⟨gb393, 4, none⟩ = some (.string a0_4) := (blk_cell BK393.out 4).trans rfl
            have hfz12_0 := blk_frozen BK393.out 0
            have hfz12_1 := blk_frozen BK393.out 1
            have hfz12_2 := blk_frozen BK393.out 2
            have hfz12_3 := blk_frozen BK393.out 3
            have hfz12_4 := blk_frozen BK393.out 4
            go_wp2
            go_meet
            case rel => exact ⟨_, (decide (a0_3 > 8191)), (by first | rfl | (simp; done) | (simp [*]; done)), H', ⟨by first | omega | exact Nat.le_refl _⟩, ⟨by (with_reducible repeat (first | refine blk_drewN ?_ _ | refine blk_drew ?_ | refine blk_alloc ?_ _)); exact BK393.out⟩, ⟨by repeat (first | (with_reducible first | exact HB.out | apply below_alloc | apply pw_below_drewN | apply below_drew1 | refine below_set ?_ GE393.out) | exact HB.out)⟩⟩
  case rest =>
    clear HC3
    try clear c1
    try clear c2
    try clear p2
    try clear c5
    try clear c5b0
    try clear c6
    try clear c6b0
    try clear c6b1
    try clear c8
    try clear c8b0
    try clear c10
    try clear c10b0
    try clear c10b1
    try clear hcz11_0
    try clear hcz11_1
    try clear hcz11_2
    try clear hcz11_3
    try clear hcz11_4
    try clear hcz12_0
    try clear hcz12_1
    try clear hcz12_2
    try clear hcz12_3
    try clear hcz12_4
    try clear hcz7_0
    try clear hcz7_1
    try clear hcz7_2
    try clear hcz7_3
    try clear hcz7_4
    try clear hcz9_0
    try clear hcz9_1
    try clear hcz9_2
    try clear hcz9_3
    try clear hcz9_4
    try clear hfz11_0
    try clear hfz11_1
    try clear hfz11_2
    try clear hfz11_3
    try clear hfz11_4
    try clear hfz12_0
    try clear hfz12_1
    try clear hfz12_2
    try clear hfz12_3
    try clear hfz12_4
    try clear hfz7_0
    try clear hfz7_1
    try clear hfz7_2
    try clear hfz7_3
    try clear hfz7_4
    try clear hfz9_0
    try clear hfz9_1
    try clear hfz9_2
    try clear hfz9_3
    try clear hfz9_4
    obtain ⟨kq, x28_2, rfl, HA, HJ2, BK393, HB⟩ := hcut
    cases kq with
    | zero => exact absurd HA.out (by simp [carouselref06_Close.j0])
    | succ kj2 =>
      have H := HA.out
      clear HA
      simp only [carouselref06_Close.j0] at H
      by_cases c13 : x28_2 = true
      · subst c13
        have H1 : (some ((⟨#[]⟩ : ByteArray), 4)) = some (r1, r2) := by rw [if_pos rfl] at H; exact H
        clear H
        have H := H1
        clear H1
        simp only [Option.some.injEq, Prod.mk.injEq] at H
        obtain ⟨rfl, rfl⟩ := H
        go_wp2
        go_ret2
        exact ⟨by first | rfl | (simp [errW_none, errW_some] <;> rfl) | (simp [*, errW_none, errW_some] <;> rfl), by repeat (first | (with_reducible first | exact HB.out | apply below_alloc | apply pw_below_drewN | apply below_drew1 | refine below_set ?_ GE393.out) | exact HB.out)⟩
      · replace c13 := Bool.eq_false_iff.mpr c13
        subst c13
        have H1 : (if (a0_4.size : Int) = 48 then (if a0_0 = true then (carouselref06_Close.j1 kj2 a1 ((a0_1 + 128) % 256) a0_0 a0_1 a0_2 a0_3 a0_4) else (carouselref06_Close.j1 kj2 a1 a0_1 a0_0 a0_1 a0_2 a0_3 a0_4)) else (some ((⟨#[]⟩ : ByteArray), 3))) = some (r1, r2) := by rw [if_neg (show ¬ (false = true) by decide)] at H; exact H
        clear H
        have H := H1
        clear H1
        by_cases c14 : (a0_4.size : Int) = 48
        · rw [if_pos c14] at H
          have c14b0 : ((a0_4.size : Int) == 48) = true := beq_iff_eq.mpr c14
          have c14b1 : ((a0_4.size : Int) != 48) = false := bne_eq_false_iff_eq.mpr c14
          clear c14
          have HC15 := Aside0.mk H
          clear H
          have hcz16_0 : wc.cell? ⟨gb393, 0, none⟩ = some (.bool a0_0) := (blk_cell BK393.out 0).trans rfl
          have hcz16_1 : wc.cell? ⟨gb393, 1, none⟩ = some (.int .u8 a0_1) := (blk_cell BK393.out 1).trans rfl
          have hcz16_2 : wc.cell? ⟨gb393, 2, none⟩ = some (.int .u32 a0_2) := (blk_cell BK393.out 2).trans rfl
          have hcz16_3 : wc.cell? ⟨gb393, 3, none⟩ = some (.int .u16 a0_3) := (blk_cell BK393.out 3).trans rfl
          have hcz16_4 : wc.cell? ⟨gb393, 4, none⟩ = some (.string a0_4) := (blk_cell BK393.out 4).trans rfl
          have hfz16_0 := blk_frozen BK393.out 0
          have hfz16_1 := blk_frozen BK393.out 1
          have hfz16_2 := blk_frozen BK393.out 2
          have hfz16_3 := blk_frozen BK393.out 3
          have hfz16_4 := blk_frozen BK393.out 4
          go_upto_if 36 with (fail)
          go_cut [6] (fun v6 wc => ∃ (kq : Nat) (x6_14 : Int), v6 = .int .u8 x6_14 ∧ Aside0 (carouselref06_Close.j1 kq a1 x6_14 a0_0 a0_1 a0_2 a0_3 a0_4 = some (r1, r2)) ∧ Aside0 (kq ≤ kj2) ∧ Aside0 (wc.heap[gb393]? = some (.cells #[.bool a0_0, .int .u8 a0_1, .int .u32 a0_2, .int .u16 a0_3, .string a0_4] 59 (0, 0))) ∧ Aside0 (Below w.heap.size w wc))
          case first =>
            have H := HC15.out
            clear HC15
            by_cases c17 : a0_0 = true
            · subst c17
              have H1 : (carouselref06_Close.j1 kj2 a1 ((a0_1 + 128) % 256) true a0_1 a0_2 a0_3 a0_4) = some (r1, r2) := by rw [if_pos rfl] at H; exact H
              clear H
              have H := H1
              clear H1
              have H' := Aside0.mk H
              clear H
              go_wp2
              go_meet
              case rel => exact ⟨_, ((a0_1 + 128) % 256), (by first | rfl | (simp; done) | (simp [*]; done)), H', ⟨by have := HJ2.out; first | omega | exact Nat.le_refl _⟩, ⟨by (with_reducible repeat (first | refine blk_drewN ?_ _ | refine blk_drew ?_ | refine blk_alloc ?_ _)); exact BK393.out⟩, ⟨by repeat (first | (with_reducible first | exact HB.out | apply below_alloc | apply pw_below_drewN | apply below_drew1 | refine below_set ?_ GE393.out) | exact HB.out)⟩⟩
            · replace c17 := Bool.eq_false_iff.mpr c17
              subst c17
              have H1 : (carouselref06_Close.j1 kj2 a1 a0_1 false a0_1 a0_2 a0_3 a0_4) = some (r1, r2) := by rw [if_neg (show ¬ (false = true) by decide)] at H; exact H
              clear H
              have H := H1
              clear H1
              have H' := Aside0.mk H
              clear H
              go_wp2
              go_meet
              case rel => exact ⟨_, (a0_1), (by first | rfl | (simp; done) | (simp [*]; done)), H', ⟨by have := HJ2.out; first | omega | exact Nat.le_refl _⟩, ⟨by (with_reducible repeat (first | refine blk_drewN ?_ _ | refine blk_drew ?_ | refine blk_alloc ?_ _)); exact BK393.out⟩, ⟨by repeat (first | (with_reducible first | exact HB.out | apply below_alloc | apply pw_below_drewN | apply below_drew1 | refine below_set ?_ GE393.out) | exact HB.out)⟩⟩
          case rest =>
            clear HC15
            try clear c1
            try clear c2
            try clear p2
            try clear c5
            try clear c5b0
            try clear c6
            try clear c6b0
            try clear c6b1
            try clear c8
            try clear c8b0
            try clear c10
            try clear c10b0
            try clear c10b1
            try clear c13
            try clear c14
            try clear c14b0
            try clear c14b1
            try clear c17
            try clear hcz11_0
            try clear hcz11_1
            try clear hcz11_2
            try clear hcz11_3
            try clear hcz11_4
            try clear hcz12_0
            try clear hcz12_1
            try clear hcz12_2
            try clear hcz12_3
            try clear hcz12_4
            try clear hcz16_0
            try clear hcz16_1
            try clear hcz16_2
            try clear hcz16_3
            try clear hcz16_4
            try clear hcz7_0
            try clear hcz7_1
            try clear hcz7_2
            try clear hcz7_3
            try clear hcz7_4
            try clear hcz9_0
            try clear hcz9_1
            try clear hcz9_2
            try clear hcz9_3
            try clear hcz9_4
            try clear hfz11_0
            try clear hfz11_1
            try clear hfz11_2
            try clear hfz11_3
            try clear hfz11_4
            try clear hfz12_0
            try clear hfz12_1
            try clear hfz12_2
            try clear hfz12_3
            try clear hfz12_4
            try clear hfz16_0
            try clear hfz16_1
            try clear hfz16_2
            try clear hfz16_3
            try clear hfz16_4
            try clear hfz7_0
            try clear hfz7_1
            try clear hfz7_2
            try clear hfz7_3
            try clear hfz7_4
            try clear hfz9_0
            try clear hfz9_1
            try clear hfz9_2
            try clear hfz9_3
            try clear hfz9_4
            try clear p2
            obtain ⟨kq, x6_14, rfl, HA, HJ14, BK393, HB⟩ := hcut
            cases kq with
            | zero => exact absurd HA.out (by simp [carouselref06_Close.j1])
            | succ kj14 =>
              have H := HA.out
              clear HA
              simp only [carouselref06_Close.j1] at H
              replace H := Option.bind_eq_some_iff.mp H
              obtain ⟨t394, A180, H⟩ := H
              replace H : ((carouselref01_Put.f kj14 (IntKind.u64.wrap (a0_3)) 2).bind fun t395 => (if t394.size + t395.size ≤ 9223372036854775807 then (if t394.size + t395.size + a0_4.size ≤ 9223372036854775807 then (if 16 ≤ 281474976710656 then ((some (List.replicate 16 0 : List Int)).bind fun y396 => (if t394.size + t395.size + a0_4.size + (strOfNums y396).size ≤ 9223372036854775807 then ((carouselref04_Close.f kj14 a1 0 1 x6_14 70 (((t394 ++ t395) ++ a0_4) ++ (strOfNums y396))).bind fun bt399 => (some (bt399.1, bt399.2))) else (none))) else (none)) else (none)) else (none))) = some (r1, r2) := H
              have A18 := Aside0.mk A180
              clear A180
              replace H := Option.bind_eq_some_iff.mp H
              obtain ⟨t395, A190, H⟩ := H
              replace H : (if t394.size + t395.size ≤ 9223372036854775807 then (if t394.size + t395.size + a0_4.size ≤ 9223372036854775807 then (if 16 ≤ 281474976710656 then ((some (List.replicate 16 0 : List Int)).bind fun y396 => (if t394.size + t395.size + a0_4.size + (strOfNums y396).size ≤ 9223372036854775807 then ((carouselref04_Close.f kj14 a1 0 1 x6_14 70 (((t394 ++ t395) ++ a0_4) ++ (strOfNums y396))).bind fun bt399 => (some (bt399.1, bt399.2))) else (none))) else (none)) else (none)) else (none)) = some (r1, r2) := H
              have A19 := Aside0.mk A190
              clear A190
              by_cases c20 : t394.size + t395.size ≤ 9223372036854775807
              · rw [if_pos c20] at H
                have c20b0 := eq_true c20
                have c20b1 : decide (t394.size + t395.size ≤ 9223372036854775807) = true := decide_eq_true c20
                try have c20b2 : (9223372036854775807 < t394.size + t395.size) = False := eq_false (Nat.not_lt.2 c20)
                by_cases c21 : t394.size + t395.size + a0_4.size ≤ 9223372036854775807
                · rw [if_pos c21] at H
                  have c21b0 := eq_true c21
                  have c21b1 : decide (t394.size + t395.size + a0_4.size ≤ 9223372036854775807) = true := decide_eq_true c21
                  try have c21b2 : (9223372036854775807 < t394.size + t395.size + a0_4.size) = False := eq_false (Nat.not_lt.2 c21)
                  by_cases c22 : 16 ≤ 281474976710656
                  · rw [if_pos c22] at H
                    have c22b0 := eq_true c22
                    have c22b1 : decide (16 ≤ 281474976710656) = true := decide_eq_true c22
                    clear c22
                    obtain ⟨y396, hy396⟩ : ∃ y_ : List Int, y_ = (List.replicate 16 0) := ⟨_, rfl⟩
                    replace H : (if t394.size + t395.size + a0_4.size + (strOfNums y396).size ≤ 9223372036854775807 then ((carouselref04_Close.f kj14 a1 0 1 x6_14 70 (((t394 ++ t395) ++ a0_4) ++ (strOfNums y396))).bind fun bt399 => (some (bt399.1, bt399.2))) else (none)) = some (r1, r2) := by first | (rw [hy396]; with_reducible exact H) | (have H2_ := (Option.bind_some _ _).symm.trans H; rw [hy396]; with_reducible exact H2_) | (have H2_ := (Option.bind_some _ _).symm.trans H; with_reducible exact H2_) | with_reducible exact H | (rw [hy396]; exact H) | exact H
                    have Ny396 := Aside0.mk hy396
                    clear hy396
                    by_cases c23 : t394.size + t395.size + a0_4.size + (strOfNums y396).size ≤ 9223372036854775807
                    · rw [if_pos c23] at H
                      have c23b0 := eq_true c23
                      have c23b1 : decide (t394.size + t395.size + a0_4.size + (strOfNums y396).size ≤ 9223372036854775807) = true := decide_eq_true c23
                      try have c23b2 : (9223372036854775807 < t394.size + t395.size + a0_4.size + (strOfNums y396).size) = False := eq_false (Nat.not_lt.2 c23)
                      replace H := Option.bind_eq_some_iff.mp H
                      obtain ⟨⟨t399, t400⟩, A240, H⟩ := H
                      replace H : (some (t399, t400)) = some (r1, r2) := H
                      have A24 := Aside0.mk A240
                      clear A240
                      simp only [Option.some.injEq, Prod.mk.injEq] at H
                      obtain ⟨rfl, rfl⟩ := H
                      try go_wp2
                      have n0_ := Aside0.mk (blk_drew BK393.out)
                      have n1_ := Aside0.mk (below_drew1 HB.out)
                      clear BK393
                      clear HB
                      have BK393 := n0_
                      have HB := n1_
                      clear n0_ n1_
                      refine start_ (n := 23) (S := fun w' => w'.cell? ⟨gb393, 0, none⟩ = some (.bool a0_0) ∧ w'.cell? ⟨gb393, 1, none⟩ = some (.int .u8 a0_1) ∧ w'.cell? ⟨gb393, 2, none⟩ = some (.int .u32 a0_2) ∧ w'.cell? ⟨gb393, 3, none⟩ = some (.int .u16 a0_3) ∧ w'.cell? ⟨gb393, 4, none⟩ = some (.string a0_4)) (ds := []) #[false, false, false, false, false, false, false, false, false, false, false, false, false, false, false, false, false, false, false, false, false, false, false] (by kernel_rfl) rfl rfl ⟨(blk_cell BK393.out 0).trans rfl, (blk_cell BK393.out 1).trans rfl, (blk_cell BK393.out 2).trans rfl, (blk_cell BK393.out 3).trans rfl, (blk_cell BK393.out 4).trans rfl⟩ (fun hHeld => ?_); refine with_tabW carouselref06_Close.tab8 carouselref06_Close.bits8 (fun HT_ HW_ => ?_)
                      generalize wc.drew = w25 at BK393 HB hHeld ⊢
                      refine pure_ (i := 0) (N := some 39) (v := ?_) (a' := ?_) #[true, false, false, false, false, false, false, false, false, false, false, false, false, false, false, false, false, false, false, false, false, false, false] rfl rfl (any_of HT_.out (by kernel_rfl)) (fun _ _ _ h => h) (Or.inl ⟨by rfl, ?_⟩) ?_ ?_
                      rotate_left
                      · intro w'
                        go_simp
                        with_reducible rfl
                      rotate_left
                      · simp only [Act.put, List.setIfInBounds_toArray, List.set_cons_zero, List.set_cons_succ, i64_w, i32_w]
                        rfl
                      refine pure_ (i := 1) (N := some 40) (v := ?_) (a' := ?_) #[true, true, false, false, false, false, false, false, false, false, false, false, false, false, false, false, false, false, false, false, false, false, false] rfl rfl (any_of HT_.out (by kernel_rfl)) (fun _ _ _ h => h) (Or.inl ⟨by rfl, ?_⟩) ?_ ?_
                      rotate_left
                      · intro w'
                        go_simp
                        with_reducible rfl
                      rotate_left
                      · simp only [Act.put, List.setIfInBounds_toArray, List.set_cons_zero, List.set_cons_succ, i64_w, i32_w]
                        rfl
                      refine pure_ (i := 2) (N := some 41) (v := ?_) (a' := ?_) #[true, true, true, false, false, false, false, false, false, false, false, false, false, false, false, false, false, false, false, false, false, false, false] rfl rfl (any_of HT_.out (by kernel_rfl)) (fun _ _ _ h => h) (Or.inl ⟨by rfl, ?_⟩) ?_ ?_
                      rotate_left
                      · intro w'
                        go_simp
                        with_reducible rfl
                      rotate_left
                      · simp only [Act.put, List.setIfInBounds_toArray, List.set_cons_zero, List.set_cons_succ, i64_w, i32_w]
                        rfl
                      refine pure_ (i := 3) (N := some 42) (v := ?_) (a' := ?_) #[true, true, true, true, false, false, false, false, false, false, false, false, false, false, false, false, false, false, false, false, false, false, false] rfl rfl (any_of HT_.out (by kernel_rfl)) (fun _ _ _ h => h) (Or.inl ⟨by rfl, ?_⟩) ?_ ?_
                      rotate_left
                      · intro w'
                        go_simp
                        with_reducible rfl
                      rotate_left
                      · simp only [Act.put, List.setIfInBounds_toArray, List.set_cons_zero, List.set_cons_succ, i64_w, i32_w]
                        rfl
                      refine pure_ (i := 7) (N := some 46) (v := ?_) (a' := ?_) #[true, true, true, true, false, false, false, true, false, false, false, false, false, false, false, false, false, false, false, false, false, false, false] rfl rfl (any_of HT_.out (by kernel_rfl)) (fun _ _ _ h => h) (Or.inl ⟨by rfl, ?_⟩) ?_ ?_
                      rotate_left
                      · intro w'
                        go_simp
                        with_reducible rfl
                      rotate_left
                      · simp only [Act.put, List.setIfInBounds_toArray, List.set_cons_zero, List.set_cons_succ, i64_w, i32_w]
                        rfl
                      refine pure_ (i := 12) (N := some 51) (v := ?_) (a' := ?_) #[true, true, true, true, false, false, false, true, false, false, false, false, true, false, false, false, false, false, false, false, false, false, false] rfl rfl (any_of HT_.out (by kernel_rfl)) (fun _ _ _ h => h) (Or.inl ⟨by rfl, ?_⟩) ?_ ?_
                      rotate_left
                      · intro w'
                        go_simp
                        with_reducible rfl
                      rotate_left
                      · simp only [Act.put, List.setIfInBounds_toArray, List.set_cons_zero, List.set_cons_succ, i64_w, i32_w]
                        rfl
                      refine take_ (i := 4) (N := some 43) (v := ?_) (a' := ?_) #[true, true, true, true, true, false, false, true, false, false, false, false, true, false, false, false, false, false, false, false, false, false, false] rfl rfl (take_ofW HT_.out HW_.out (by kernel_rfl)) (fun _ _ _ h => h) (Or.inl ⟨by rfl, ?_⟩) hHeld ?_ ?_
                      rotate_left
                      · rintro w' ⟨s0, s1, s2, s3, s4⟩
                        go_simp
                        with_reducible rfl
                      rotate_left
                      · simp only [Act.put, List.setIfInBounds_toArray, List.set_cons_zero, List.set_cons_succ, i64_w, i32_w]
                        rfl
                      refine pure_ (i := 5) (N := some 44) (v := ?_) (a' := ?_) #[true, true, true, true, true, true, false, true, false, false, false, false, true, false, false, false, false, false, false, false, false, false, false] rfl rfl (any_of HT_.out (by kernel_rfl)) (fun _ _ _ h => h) (Or.inl ⟨by rfl, ?_⟩) ?_ ?_
                      rotate_left
                      · intro w'
                        go_simp
                        with_reducible rfl
                      rotate_left
                      · simp only [Act.put, List.setIfInBounds_toArray, List.set_cons_zero, List.set_cons_succ, i64_w, i32_w]
                        rfl
                      refine take_ (i := 8) (N := some 47) (v := ?_) (a' := ?_) #[true, true, true, true, true, true, false, true, true, false, false, false, true, false, false, false, false, false, false, false, false, false, false] rfl rfl (take_ofW HT_.out HW_.out (by kernel_rfl)) (fun _ _ _ h => h) (Or.inl ⟨by rfl, ?_⟩) hHeld ?_ ?_
                      rotate_left
                      · rintro w' ⟨s0, s1, s2, s3, s4⟩
                        go_simp
                        with_reducible rfl
                      rotate_left
                      · simp only [Act.put, List.setIfInBounds_toArray, List.set_cons_zero, List.set_cons_succ, i64_w, i32_w]
                        rfl
                      refine pure_ (i := 9) (N := some 48) (v := ?_) (a' := ?_) #[true, true, true, true, true, true, false, true, true, true, false, false, true, false, false, false, false, false, false, false, false, false, false] rfl rfl (any_of HT_.out (by kernel_rfl)) (fun _ _ _ h => h) (Or.inl ⟨by rfl, ?_⟩) ?_ ?_
                      rotate_left
                      · intro w'
                        go_simp
                        with_reducible rfl
                      rotate_left
                      · simp only [Act.put, List.setIfInBounds_toArray, List.set_cons_zero, List.set_cons_succ, i64_w, i32_w]
                        rfl
                      refine take_ (i := 13) (N := some 52) (v := ?_) (a' := ?_) #[true, true, true, true, true, true, false, true, true, true, false, false, true, true, false, false, false, false, false, false, false, false, false] rfl rfl (take_ofW HT_.out HW_.out (by kernel_rfl)) (fun _ _ _ h => h) (Or.inl ⟨by rfl, ?_⟩) hHeld ?_ ?_
                      rotate_left
                      · rintro w' ⟨s0, s1, s2, s3, s4⟩
                        go_simp
                        with_reducible rfl
                      rotate_left
                      · simp only [Act.put, List.setIfInBounds_toArray, List.set_cons_zero, List.set_cons_succ, i64_w, i32_w]
                        rfl
                      refine join_ (σ := Value) 6 #[true, true, true, true, true, true, true, true, true, true, true, true, true, true, true, true, true, false, false, false, false, false, false] (fun s_ => [(45, .string t394), (49, .string t395), (54, s_), (55, .string (strOfNums y396)), (50, .string (t394 ++ t395)), (53, .string ((t394 ++ t395) ++ a0_4))]) (fun s_ w' => (w'.cell? ⟨gb393, 0, none⟩ = some (.bool a0_0) ∧ w'.cell? ⟨gb393, 1, none⟩ = some (.int .u8 a0_1) ∧ w'.cell? ⟨gb393, 2, none⟩ = some (.int .u32 a0_2) ∧ w'.cell? ⟨gb393, 3, none⟩ = some (.int .u16 a0_3) ∧ w'.cell? ⟨gb393, 4, none⟩ = some (.string a0_4)) ∧ (Kd.R (Kd.int .u8) 5 w' w.heap.size (fun _ => True) s_ y396) ∧ (w'.heap[gb393]? = some (.cells #[.bool a0_0, .int .u8 a0_1, .int .u32 a0_2, .int .u16 a0_3, .string a0_4] 59 (0, 0))) ∧ (Below w.heap.size w w')) ?_ ?_
                      rotate_left
                      · intro hJ6_10_15_16
                        refine join_ (σ := Value) 7 #[true, true, true, true, true, true, true, true, true, true, true, true, true, true, true, true, false, false, false, false, false, false, false] (fun s_ => [(45, .string t394), (49, .string t395), (54, s_), (50, .string (t394 ++ t395)), (53, .string ((t394 ++ t395) ++ a0_4))]) (fun s_ w' => (w'.cell? ⟨gb393, 0, none⟩ = some (.bool a0_0) ∧ w'.cell? ⟨gb393, 1, none⟩ = some (.int .u8 a0_1) ∧ w'.cell? ⟨gb393, 2, none⟩ = some (.int .u32 a0_2) ∧ w'.cell? ⟨gb393, 3, none⟩ = some (.int .u16 a0_3) ∧ w'.cell? ⟨gb393, 4, none⟩ = some (.string a0_4)) ∧ (Kd.R (Kd.int .u8) 5 w' w.heap.size (fun _ => True) s_ y396) ∧ (w'.heap[gb393]? = some (.cells #[.bool a0_0, .int .u8 a0_1, .int .u32 a0_2, .int .u16 a0_3, .string a0_4] 59 (0, 0))) ∧ (Below w.heap.size w w')) ?_ ?_
                        rotate_left
                        · intro hJ6_10_15
                          refine join_ (σ := Value) 9 #[true, true, true, true, true, true, true, true, true, true, false, false, true, true, false, true, true, false, false, false, false, false, false] (fun s_ => [(45, .string t394), (54, s_), (55, .string (strOfNums y396))]) (fun s_ w' => (w'.cell? ⟨gb393, 0, none⟩ = some (.bool a0_0) ∧ w'.cell? ⟨gb393, 1, none⟩ = some (.int .u8 a0_1) ∧ w'.cell? ⟨gb393, 2, none⟩ = some (.int .u32 a0_2) ∧ w'.cell? ⟨gb393, 3, none⟩ = some (.int .u16 a0_3) ∧ w'.cell? ⟨gb393, 4, none⟩ = some (.string a0_4)) ∧ (Kd.R (Kd.int .u8) 5 w' w.heap.size (fun _ => True) s_ y396) ∧ (w'.heap[gb393]? = some (.cells #[.bool a0_0, .int .u8 a0_1, .int .u32 a0_2, .int .u16 a0_3, .string a0_4] 59 (0, 0))) ∧ (Below w.heap.size w w')) ?_ ?_
                          rotate_left
                          · intro hJ6_15_16
                            refine join_ (σ := Unit) 8 #[true, true, true, true, true, true, true, true, true, true, true, true, true, true, true, false, false, false, false, false, false, false, false] (fun s_ => [(45, .string t394), (49, .string t395), (50, .string (t394 ++ t395)), (53, .string ((t394 ++ t395) ++ a0_4))]) (fun s_ w' => (w'.cell? ⟨gb393, 0, none⟩ = some (.bool a0_0) ∧ w'.cell? ⟨gb393, 1, none⟩ = some (.int .u8 a0_1) ∧ w'.cell? ⟨gb393, 2, none⟩ = some (.int .u32 a0_2) ∧ w'.cell? ⟨gb393, 3, none⟩ = some (.int .u16 a0_3) ∧ w'.cell? ⟨gb393, 4, none⟩ = some (.string a0_4)) ∧ (w'.heap[gb393]? = some (.cells #[.bool a0_0, .int .u8 a0_1, .int .u32 a0_2, .int .u16 a0_3, .string a0_4] 59 (0, 0))) ∧ (Below w.heap.size w w')) ?_ ?_
                            rotate_left
                            · intro hJ6_10
                              refine join_ (σ := Value) 10 #[true, true, true, true, true, true, true, true, true, true, false, false, true, true, false, true, false, false, false, false, false, false, false] (fun s_ => [(45, .string t394), (54, s_)]) (fun s_ w' => (w'.cell? ⟨gb393, 0, none⟩ = some (.bool a0_0) ∧ w'.cell? ⟨gb393, 1, none⟩ = some (.int .u8 a0_1) ∧ w'.cell? ⟨gb393, 2, none⟩ = some (.int .u32 a0_2) ∧ w'.cell? ⟨gb393, 3, none⟩ = some (.int .u16 a0_3) ∧ w'.cell? ⟨gb393, 4, none⟩ = some (.string a0_4)) ∧ (Kd.R (Kd.int .u8) 5 w' w.heap.size (fun _ => True) s_ y396) ∧ (w'.heap[gb393]? = some (.cells #[.bool a0_0, .int .u8 a0_1, .int .u32 a0_2, .int .u16 a0_3, .string a0_4] 59 (0, 0))) ∧ (Below w.heap.size w w')) ?_ ?_
                              rotate_left
                              · intro hJ6_15
                                refine join_ (σ := Value) 10 #[true, true, true, true, true, true, false, true, true, true, false, false, true, true, false, true, true, false, false, false, false, false, false] (fun s_ => [(54, s_), (55, .string (strOfNums y396))]) (fun s_ w' => (w'.cell? ⟨gb393, 0, none⟩ = some (.bool a0_0) ∧ w'.cell? ⟨gb393, 1, none⟩ = some (.int .u8 a0_1) ∧ w'.cell? ⟨gb393, 2, none⟩ = some (.int .u32 a0_2) ∧ w'.cell? ⟨gb393, 3, none⟩ = some (.int .u16 a0_3) ∧ w'.cell? ⟨gb393, 4, none⟩ = some (.string a0_4)) ∧ (Kd.R (Kd.int .u8) 5 w' w.heap.size (fun _ => True) s_ y396) ∧ (w'.heap[gb393]? = some (.cells #[.bool a0_0, .int .u8 a0_1, .int .u32 a0_2, .int .u16 a0_3, .string a0_4] 59 (0, 0))) ∧ (Below w.heap.size w w')) ?_ ?_
                                rotate_left
                                · intro hJ15_16
                                  refine join_ (σ := Unit) 11 #[true, true, true, true, true, true, true, true, true, true, false, false, true, true, false, false, false, false, false, false, false, false, false] (fun s_ => [(45, .string t394)]) (fun s_ w' => (w'.cell? ⟨gb393, 0, none⟩ = some (.bool a0_0) ∧ w'.cell? ⟨gb393, 1, none⟩ = some (.int .u8 a0_1) ∧ w'.cell? ⟨gb393, 2, none⟩ = some (.int .u32 a0_2) ∧ w'.cell? ⟨gb393, 3, none⟩ = some (.int .u16 a0_3) ∧ w'.cell? ⟨gb393, 4, none⟩ = some (.string a0_4)) ∧ (w'.heap[gb393]? = some (.cells #[.bool a0_0, .int .u8 a0_1, .int .u32 a0_2, .int .u16 a0_3, .string a0_4] 59 (0, 0))) ∧ (Below w.heap.size w w')) ?_ ?_
                                  rotate_left
                                  · intro hJ6
                                    refine join_ (σ := Value) 11 #[true, true, true, true, true, true, false, true, true, true, false, false, true, true, false, true, false, false, false, false, false, false, false] (fun s_ => [(54, s_)]) (fun s_ w' => (w'.cell? ⟨gb393, 0, none⟩ = some (.bool a0_0) ∧ w'.cell? ⟨gb393, 1, none⟩ = some (.int .u8 a0_1) ∧ w'.cell? ⟨gb393, 2, none⟩ = some (.int .u32 a0_2) ∧ w'.cell? ⟨gb393, 3, none⟩ = some (.int .u16 a0_3) ∧ w'.cell? ⟨gb393, 4, none⟩ = some (.string a0_4)) ∧ (Kd.R (Kd.int .u8) 5 w' w.heap.size (fun _ => True) s_ y396) ∧ (w'.heap[gb393]? = some (.cells #[.bool a0_0, .int .u8 a0_1, .int .u32 a0_2, .int .u16 a0_3, .string a0_4] 59 (0, 0))) ∧ (Below w.heap.size w w')) ?_ ?_
                                    rotate_left
                                    · intro hJ15
                                      refine two_ (i := 6) (j := 15) (Ni := some 45) (Nj := some 54) #[true, true, true, true, true, true, true, true, true, true, false, false, true, true, false, false, false, false, false, false, false, false, false] #[true, true, true, true, true, true, false, true, true, true, false, false, true, true, false, true, false, false, false, false, false, false, false] rfl rfl rfl rfl (two_of HT_.out (by kernel_rfl)) (by decide) (by decide) (fun K hK => ?_) (fun K hK => ?_)
                                      · skip
                                        refine goes_ Try.func56 (by kernel_rfl) rfl #[.int .u64 (IntKind.u64.wrap (a0_2)), .int .i64 4] (by rfl) rfl rfl (by (try simp only [List.map_toArray, List.map_cons, List.map_nil]); first | done | rfl | (simp only [List.length_drop, List.length_take]; rfl)) ?_
                                        with_reducible refine (carouselref01_Put.calls kj14 (IntKind.u64.wrap (a0_2)) 4 t394 _ A18.out).mono ?_
                                        rintro e w26 ⟨rfl, hb⟩
                                        refine ⟨_, rfl, ?_⟩
                                        have n0_ := Aside0.mk (blk_below (g := gb393) (o := .cells #[.bool a0_0, .int .u8 a0_1, .int .u32 a0_2, .int .u16 a0_3, .string a0_4] 59 (0, 0)) (by (with_reducible repeat (first | refine blk_drewN ?_ _ | refine blk_drew ?_ | refine blk_alloc ?_ _)); exact BK393.out) hb)
                                        have n1_ := Aside0.mk (below_step (by repeat (first | (with_reducible first | exact HB.out | apply below_alloc | apply pw_below_drewN | apply below_drew1 | refine below_set ?_ GE393.out) | exact HB.out)) hb)
                                        clear BK393
                                        clear HB
                                        have BK393 := n0_
                                        have HB := n1_
                                        clear n0_ n1_
                                        (try clear hb)
                                        (try clear hb2)
                                        (try clear hk)
                                        (try clear hi)
                                        refine hK.out _ _ ⟨(blk_cell BK393.out 0).trans rfl, (blk_cell BK393.out 1).trans rfl, (blk_cell BK393.out 2).trans rfl, (blk_cell BK393.out 3).trans rfl, (blk_cell BK393.out 4).trans rfl⟩ (fun hHeld => ?_)
                                        clear hK K
                                        refine norm_ (a' := ?_) ?_ ?_
                                        rotate_left
                                        · show Act.put _ (some 45) _ = _
                                          simp only [Act.put, List.setIfInBounds_toArray, List.set_cons_zero, List.set_cons_succ, i64_w, i32_w]
                                          rfl
                                        exact norm_ (by first | (simp only [putAll, Act.put, List.setIfInBounds_toArray, List.set_cons_zero, List.set_cons_succ]; done) | (simp only [putAll, Act.put, List.setIfInBounds_toArray, List.set_cons_zero, List.set_cons_succ]; rfl)) (hJ6 () _ ⟨hHeld, (by (with_reducible repeat (first | refine blk_drewN ?_ _ | refine blk_drew ?_ | refine blk_alloc ?_ _)); exact BK393.out), (by repeat (first | (with_reducible first | exact HB.out | apply below_alloc | apply pw_below_drewN | apply below_drew1 | refine below_set ?_ GE393.out) | exact HB.out))⟩)
                                      · skip
                                        refine Kd.R_make_step (Kd.int .u8) _ 5 (by rfl) (N := 54) rfl 79 _ _ rfl 16 rfl rfl Try.underlying79 (.int .u8 0) 1 info5 rfl (by decide) (by omega) 0 (ok := fun _ => True) (okp := fun _ => True) rfl (fun _ hk => hk) trivial (by omega) (by omega) (Below.refl _ _) (Nat.le_refl _) ?_
                                        intro v397 w26 ho27 hb hg_ hnew_
                                        clear hg_ hnew_
                                        (first | rw [← Ny396.out] at ho27 | (simp only [Int.reduceToNat] at ho27; rw [← Ny396.out] at ho27))
                                        have n0_ := Aside0.mk (Kd.R_lower ho27 (below_size (by repeat (first | (with_reducible first | exact HB.out | apply below_alloc | apply pw_below_drewN | apply below_drew1 | refine below_set ?_ GE393.out) | exact HB.out))))
                                        have n1_ := Aside0.mk (blk_below (g := gb393) (o := .cells #[.bool a0_0, .int .u8 a0_1, .int .u32 a0_2, .int .u16 a0_3, .string a0_4] 59 (0, 0)) (by (with_reducible repeat (first | refine blk_drewN ?_ _ | refine blk_drew ?_ | refine blk_alloc ?_ _)); exact BK393.out) hb)
                                        have n2_ := Aside0.mk (below_step (by repeat (first | (with_reducible first | exact HB.out | apply below_alloc | apply pw_below_drewN | apply below_drew1 | refine below_set ?_ GE393.out) | exact HB.out)) hb)
                                        clear BK393
                                        clear HB
                                        have HO398 := n0_
                                        have BK393 := n1_
                                        have HB := n2_
                                        clear n0_ n1_ n2_
                                        clear hb ho27
                                        refine hK.out _ _ ⟨(blk_cell BK393.out 0).trans rfl, (blk_cell BK393.out 1).trans rfl, (blk_cell BK393.out 2).trans rfl, (blk_cell BK393.out 3).trans rfl, (blk_cell BK393.out 4).trans rfl⟩ (fun hHeld => ?_)
                                        clear hK K
                                        refine norm_ (a' := ?_) ?_ ?_
                                        rotate_left
                                        · show Act.put _ (some 54) _ = _
                                          simp only [Act.put, List.setIfInBounds_toArray, List.set_cons_zero, List.set_cons_succ, i64_w, i32_w]
                                          rfl
                                        exact norm_ (by first | (simp only [putAll, Act.put, List.setIfInBounds_toArray, List.set_cons_zero, List.set_cons_succ]; done) | (simp only [putAll, Act.put, List.setIfInBounds_toArray, List.set_cons_zero, List.set_cons_succ]; rfl)) (hJ15 (v397) _ ⟨hHeld, (by (with_reducible repeat (first | apply Kd.R_alloc | apply Kd.R_drewN | apply Kd.R_drew)); exact HO398.out), (by (with_reducible repeat (first | refine blk_drewN ?_ _ | refine blk_drew ?_ | refine blk_alloc ?_ _)); exact BK393.out), (by repeat (first | (with_reducible first | exact HB.out | apply below_alloc | apply pw_below_drewN | apply below_drew1 | refine below_set ?_ GE393.out) | exact HB.out))⟩)
                                    · skip
                                      rintro v397 w28 ⟨hS_, h0_, h1_, h2_⟩
                                      have n0_ : Aside0 (Kd.R (Kd.int .u8) 5 w28 w.heap.size (fun _ => True) v397 y396) := ⟨h0_⟩
                                      have n1_ : Aside0 (w28.heap[gb393]? = some (.cells #[.bool a0_0, .int .u8 a0_1, .int .u32 a0_2, .int .u16 a0_3, .string a0_4] 59 (0, 0))) := ⟨h1_⟩
                                      have n2_ : Aside0 (Below w.heap.size w w28) := ⟨h2_⟩
                                      clear BK393
                                      clear HB
                                      clear h0_ h1_ h2_
                                      have HO398 := n0_
                                      have BK393 := n1_
                                      have HB := n2_
                                      clear n0_ n1_ n2_
                                      have hHeld : w28.cell? ⟨gb393, 0, none⟩ = some (.bool a0_0) ∧ w28.cell? ⟨gb393, 1, none⟩ = some (.int .u8 a0_1) ∧ w28.cell? ⟨gb393, 2, none⟩ = some (.int .u32 a0_2) ∧ w28.cell? ⟨gb393, 3, none⟩ = some (.int .u16 a0_3) ∧ w28.cell? ⟨gb393, 4, none⟩ = some (.string a0_4) := hS_
                                      refine norm_ (a' := ?_) ?_ ?_
                                      rotate_left
                                      · simp only [putAll, Act.put, List.setIfInBounds_toArray, List.set_cons_zero, List.set_cons_succ]
                                        rfl
                                      refine two_ (i := 6) (j := 16) (Ni := some 45) (Nj := some 55) #[true, true, true, true, true, true, true, true, true, true, false, false, true, true, false, true, false, false, false, false, false, false, false] #[true, true, true, true, true, true, false, true, true, true, false, false, true, true, false, true, true, false, false, false, false, false, false] rfl rfl rfl rfl (two_of HT_.out (by kernel_rfl)) (by decide) (by decide) (fun K hK => ?_) (fun K hK => ?_)
                                      · skip
                                        refine goes_ Try.func56 (by kernel_rfl) rfl #[.int .u64 (IntKind.u64.wrap (a0_2)), .int .i64 4] (by rfl) rfl rfl (by (try simp only [List.map_toArray, List.map_cons, List.map_nil]); first | done | rfl | (simp only [List.length_drop, List.length_take]; rfl)) ?_
                                        with_reducible refine (carouselref01_Put.calls kj14 (IntKind.u64.wrap (a0_2)) 4 t394 _ A18.out).mono ?_
                                        rintro e w29 ⟨rfl, hb⟩
                                        refine ⟨_, rfl, ?_⟩
                                        have n0_ := Aside0.mk (Kd.R_below (by (with_reducible repeat (first | apply Kd.R_alloc | apply Kd.R_drewN | apply Kd.R_drew)); exact HO398.out) hb)
                                        have n1_ := Aside0.mk (blk_below (g := gb393) (o := .cells #[.bool a0_0, .int .u8 a0_1, .int .u32 a0_2, .int .u16 a0_3, .string a0_4] 59 (0, 0)) (by (with_reducible repeat (first | refine blk_drewN ?_ _ | refine blk_drew ?_ | refine blk_alloc ?_ _)); exact BK393.out) hb)
                                        have n2_ := Aside0.mk (below_step (by repeat (first | (with_reducible first | exact HB.out | apply below_alloc | apply pw_below_drewN | apply below_drew1 | refine below_set ?_ GE393.out) | exact HB.out)) hb)
                                        clear HO398
                                        clear BK393
                                        clear HB
                                        have HO398 := n0_
                                        have BK393 := n1_
                                        have HB := n2_
                                        clear n0_ n1_ n2_
                                        (try clear hb)
                                        (try clear hb2)
                                        (try clear hk)
                                        (try clear hi)
                                        refine hK.out _ _ ⟨(blk_cell BK393.out 0).trans rfl, (blk_cell BK393.out 1).trans rfl, (blk_cell BK393.out 2).trans rfl, (blk_cell BK393.out 3).trans rfl, (blk_cell BK393.out 4).trans rfl⟩ (fun hHeld => ?_)
                                        clear hK K
                                        refine norm_ (a' := ?_) ?_ ?_
                                        rotate_left
                                        · show Act.put _ (some 45) _ = _
                                          simp only [Act.put, List.setIfInBounds_toArray, List.set_cons_zero, List.set_cons_succ, i64_w, i32_w]
                                          rfl
                                        exact norm_ (by first | (simp only [putAll, Act.put, List.setIfInBounds_toArray, List.set_cons_zero, List.set_cons_succ]; done) | (simp only [putAll, Act.put, List.setIfInBounds_toArray, List.set_cons_zero, List.set_cons_succ]; rfl)) (hJ6_15 (v397) _ ⟨hHeld, (by (with_reducible repeat (first | apply Kd.R_alloc | apply Kd.R_drewN | apply Kd.R_drew)); exact HO398.out), (by (with_reducible repeat (first | refine blk_drewN ?_ _ | refine blk_drew ?_ | refine blk_alloc ?_ _)); exact BK393.out), (by repeat (first | (with_reducible first | exact HB.out | apply below_alloc | apply pw_below_drewN | apply below_drew1 | refine below_set ?_ GE393.out) | exact HB.out))⟩)
                                      · skip
                                        have hcv29 := own_string (P := Try.prog) Try.underlying79 Try.underlying5 Try.underlying9 (Kd.own_of_R HO398.out)
                                        refine value_ (w1 := ?_) (v := ?_) (by rfl) rfl ?_ ?_
                                        rotate_left 2
                                        · go_simp
                                          constructor
                                          · rfl
                                          · rfl
                                        clear hcv29
                                        refine hK.out _ _ ⟨(blk_cell BK393.out 0).trans rfl, (blk_cell BK393.out 1).trans rfl, (blk_cell BK393.out 2).trans rfl, (blk_cell BK393.out 3).trans rfl, (blk_cell BK393.out 4).trans rfl⟩ (fun hHeld => ?_)
                                        clear hK K
                                        refine norm_ (a' := ?_) ?_ ?_
                                        rotate_left
                                        · show Act.put _ (some 55) _ = _
                                          simp only [Act.put, List.setIfInBounds_toArray, List.set_cons_zero, List.set_cons_succ, i64_w, i32_w]
                                          rfl
                                        exact norm_ (by first | (simp only [putAll, Act.put, List.setIfInBounds_toArray, List.set_cons_zero, List.set_cons_succ]; done) | (simp only [putAll, Act.put, List.setIfInBounds_toArray, List.set_cons_zero, List.set_cons_succ]; rfl)) (hJ15_16 (v397) _ ⟨hHeld, (by (with_reducible repeat (first | apply Kd.R_alloc | apply Kd.R_drewN | apply Kd.R_drew)); exact HO398.out), (by (with_reducible repeat (first | refine blk_drewN ?_ _ | refine blk_drew ?_ | refine blk_alloc ?_ _)); exact BK393.out), (by repeat (first | (with_reducible first | exact HB.out | apply below_alloc | apply pw_below_drewN | apply below_drew1 | refine below_set ?_ GE393.out) | exact HB.out))⟩)
                                  · skip
                                    rintro _ w27 ⟨hS_, h0_, h1_⟩
                                    have n0_ : Aside0 (w27.heap[gb393]? = some (.cells #[.bool a0_0, .int .u8 a0_1, .int .u32 a0_2, .int .u16 a0_3, .string a0_4] 59 (0, 0))) := ⟨h0_⟩
                                    have n1_ : Aside0 (Below w.heap.size w w27) := ⟨h1_⟩
                                    clear BK393
                                    clear HB
                                    clear h0_ h1_
                                    have BK393 := n0_
                                    have HB := n1_
                                    clear n0_ n1_
                                    have hHeld : w27.cell? ⟨gb393, 0, none⟩ = some (.bool a0_0) ∧ w27.cell? ⟨gb393, 1, none⟩ = some (.int .u8 a0_1) ∧ w27.cell? ⟨gb393, 2, none⟩ = some (.int .u32 a0_2) ∧ w27.cell? ⟨gb393, 3, none⟩ = some (.int .u16 a0_3) ∧ w27.cell? ⟨gb393, 4, none⟩ = some (.string a0_4) := hS_
                                    refine norm_ (a' := ?_) ?_ ?_
                                    rotate_left
                                    · simp only [putAll, Act.put, List.setIfInBounds_toArray, List.set_cons_zero, List.set_cons_succ]
                                      rfl
                                    refine two_ (i := 10) (j := 15) (Ni := some 49) (Nj := some 54) #[true, true, true, true, true, true, true, true, true, true, true, false, true, true, false, false, false, false, false, false, false, false, false] #[true, true, true, true, true, true, true, true, true, true, false, false, true, true, false, true, false, false, false, false, false, false, false] rfl rfl rfl rfl (two_of HT_.out (by kernel_rfl)) (by decide) (by decide) (fun K hK => ?_) (fun K hK => ?_)
                                    · skip
                                      refine goes_ Try.func56 (by kernel_rfl) rfl #[.int .u64 (IntKind.u64.wrap (a0_3)), .int .i64 2] (by rfl) rfl rfl (by (try simp only [List.map_toArray, List.map_cons, List.map_nil]); first | done | rfl | (simp only [List.length_drop, List.length_take]; rfl)) ?_
                                      with_reducible refine (carouselref01_Put.calls kj14 (IntKind.u64.wrap (a0_3)) 2 t395 _ A19.out).mono ?_
                                      rintro e w28 ⟨rfl, hb⟩
                                      refine ⟨_, rfl, ?_⟩
                                      have n0_ := Aside0.mk (blk_below (g := gb393) (o := .cells #[.bool a0_0, .int .u8 a0_1, .int .u32 a0_2, .int .u16 a0_3, .string a0_4] 59 (0, 0)) (by (with_reducible repeat (first | refine blk_drewN ?_ _ | refine blk_drew ?_ | refine blk_alloc ?_ _)); exact BK393.out) hb)
                                      have n1_ := Aside0.mk (below_step (by repeat (first | (with_reducible first | exact HB.out | apply below_alloc | apply pw_below_drewN | apply below_drew1 | refine below_set ?_ GE393.out) | exact HB.out)) hb)
                                      clear BK393
                                      clear HB
                                      have BK393 := n0_
                                      have HB := n1_
                                      clear n0_ n1_
                                      (try clear hb)
                                      (try clear hb2)
                                      (try clear hk)
                                      (try clear hi)
                                      refine hK.out _ _ ⟨(blk_cell BK393.out 0).trans rfl, (blk_cell BK393.out 1).trans rfl, (blk_cell BK393.out 2).trans rfl, (blk_cell BK393.out 3).trans rfl, (blk_cell BK393.out 4).trans rfl⟩ (fun hHeld => ?_)
                                      clear hK K
                                      refine norm_ (a' := ?_) ?_ ?_
                                      rotate_left
                                      · show Act.put _ (some 49) _ = _
                                        simp only [Act.put, List.setIfInBounds_toArray, List.set_cons_zero, List.set_cons_succ, i64_w, i32_w]
                                        rfl
                                      refine pure_ (i := 11) (N := some 50) (v := ?_) (a' := ?_) #[true, true, true, true, true, true, true, true, true, true, true, true, true, true, false, false, false, false, false, false, false, false, false] rfl rfl (any_of HT_.out (by kernel_rfl)) (fun _ _ _ h => h) (Or.inl ⟨by rfl, ?_⟩) ?_ ?_
                                      rotate_left
                                      · intro w'
                                        go_simp
                                        with_reducible rfl
                                      rotate_left
                                      · simp only [Act.put, List.setIfInBounds_toArray, List.set_cons_zero, List.set_cons_succ, i64_w, i32_w]
                                        rfl
                                      refine pure_ (i := 14) (N := some 53) (v := ?_) (a' := ?_) #[true, true, true, true, true, true, true, true, true, true, true, true, true, true, true, false, false, false, false, false, false, false, false] rfl rfl (any_of HT_.out (by kernel_rfl)) (fun _ _ _ h => h) (Or.inl ⟨by rfl, ?_⟩) ?_ ?_
                                      rotate_left
                                      · intro w'
                                        go_simp
                                        with_reducible rfl
                                      rotate_left
                                      · simp only [Act.put, List.setIfInBounds_toArray, List.set_cons_zero, List.set_cons_succ, i64_w, i32_w]
                                        rfl
                                      exact norm_ (by first | (simp only [putAll, Act.put, List.setIfInBounds_toArray, List.set_cons_zero, List.set_cons_succ]; done) | (simp only [putAll, Act.put, List.setIfInBounds_toArray, List.set_cons_zero, List.set_cons_succ]; rfl)) (hJ6_10 () _ ⟨hHeld, (by (with_reducible repeat (first | refine blk_drewN ?_ _ | refine blk_drew ?_ | refine blk_alloc ?_ _)); exact BK393.out), (by repeat (first | (with_reducible first | exact HB.out | apply below_alloc | apply pw_below_drewN | apply below_drew1 | refine below_set ?_ GE393.out) | exact HB.out))⟩)
                                    · skip
                                      refine Kd.R_make_step (Kd.int .u8) _ 5 (by rfl) (N := 54) rfl 79 _ _ rfl 16 rfl rfl Try.underlying79 (.int .u8 0) 1 info5 rfl (by decide) (by omega) 0 (ok := fun _ => True) (okp := fun _ => True) rfl (fun _ hk => hk) trivial (by omega) (by omega) (Below.refl _ _) (Nat.le_refl _) ?_
                                      intro v397 w28 ho29 hb hg_ hnew_
                                      clear hg_ hnew_
                                      (first | rw [← Ny396.out] at ho29 | (simp only [Int.reduceToNat] at ho29; rw [← Ny396.out] at ho29))
                                      have n0_ := Aside0.mk (Kd.R_lower ho29 (below_size (by repeat (first | (with_reducible first | exact HB.out | apply below_alloc | apply pw_below_drewN | apply below_drew1 | refine below_set ?_ GE393.out) | exact HB.out))))
                                      have n1_ := Aside0.mk (blk_below (g := gb393) (o := .cells #[.bool a0_0, .int .u8 a0_1, .int .u32 a0_2, .int .u16 a0_3, .string a0_4] 59 (0, 0)) (by (with_reducible repeat (first | refine blk_drewN ?_ _ | refine blk_drew ?_ | refine blk_alloc ?_ _)); exact BK393.out) hb)
                                      have n2_ := Aside0.mk (below_step (by repeat (first | (with_reducible first | exact HB.out | apply below_alloc | apply pw_below_drewN | apply below_drew1 | refine below_set ?_ GE393.out) | exact HB.out)) hb)
                                      clear BK393
                                      clear HB
                                      have HO398 := n0_
                                      have BK393 := n1_
                                      have HB := n2_
                                      clear n0_ n1_ n2_
                                      clear hb ho29
                                      refine hK.out _ _ ⟨(blk_cell BK393.out 0).trans rfl, (blk_cell BK393.out 1).trans rfl, (blk_cell BK393.out 2).trans rfl, (blk_cell BK393.out 3).trans rfl, (blk_cell BK393.out 4).trans rfl⟩ (fun hHeld => ?_)
                                      clear hK K
                                      refine norm_ (a' := ?_) ?_ ?_
                                      rotate_left
                                      · show Act.put _ (some 54) _ = _
                                        simp only [Act.put, List.setIfInBounds_toArray, List.set_cons_zero, List.set_cons_succ, i64_w, i32_w]
                                        rfl
                                      exact norm_ (by first | (simp only [putAll, Act.put, List.setIfInBounds_toArray, List.set_cons_zero, List.set_cons_succ]; done) | (simp only [putAll, Act.put, List.setIfInBounds_toArray, List.set_cons_zero, List.set_cons_succ]; rfl)) (hJ6_15 (v397) _ ⟨hHeld, (by (with_reducible repeat (first | apply Kd.R_alloc | apply Kd.R_drewN | apply Kd.R_drew)); exact HO398.out), (by (with_reducible repeat (first | refine blk_drewN ?_ _ | refine blk_drew ?_ | refine blk_alloc ?_ _)); exact BK393.out), (by repeat (first | (with_reducible first | exact HB.out | apply below_alloc | apply pw_below_drewN | apply below_drew1 | refine below_set ?_ GE393.out) | exact HB.out))⟩)
                                · skip
                                  rintro v397 w29 ⟨hS_, h0_, h1_, h2_⟩
                                  have n0_ : Aside0 (Kd.R (Kd.int .u8) 5 w29 w.heap.size (fun _ => True) v397 y396) := ⟨h0_⟩
                                  have n1_ : Aside0 (w29.heap[gb393]? = some (.cells #[.bool a0_0, .int .u8 a0_1, .int .u32 a0_2, .int .u16 a0_3, .string a0_4] 59 (0, 0))) := ⟨h1_⟩
                                  have n2_ : Aside0 (Below w.heap.size w w29) := ⟨h2_⟩
                                  clear BK393
                                  clear HB
                                  clear h0_ h1_ h2_
                                  have HO398 := n0_
                                  have BK393 := n1_
                                  have HB := n2_
                                  clear n0_ n1_ n2_
                                  have hHeld : w29.cell? ⟨gb393, 0, none⟩ = some (.bool a0_0) ∧ w29.cell? ⟨gb393, 1, none⟩ = some (.int .u8 a0_1) ∧ w29.cell? ⟨gb393, 2, none⟩ = some (.int .u32 a0_2) ∧ w29.cell? ⟨gb393, 3, none⟩ = some (.int .u16 a0_3) ∧ w29.cell? ⟨gb393, 4, none⟩ = some (.string a0_4) := hS_
                                  refine norm_ (a' := ?_) ?_ ?_
                                  rotate_left
                                  · simp only [putAll, Act.put, List.setIfInBounds_toArray, List.set_cons_zero, List.set_cons_succ]
                                    rfl
                                  refine one_ (i := 6) (N := some 45) #[true, true, true, true, true, true, true, true, true, true, false, false, true, true, false, true, true, false, false, false, false, false, false] rfl rfl (one_of HT_.out (by kernel_rfl)) (by decide) (fun K hK => ?_)
                                  refine goes_ Try.func56 (by kernel_rfl) rfl #[.int .u64 (IntKind.u64.wrap (a0_2)), .int .i64 4] (by rfl) rfl rfl (by (try simp only [List.map_toArray, List.map_cons, List.map_nil]); first | done | rfl | (simp only [List.length_drop, List.length_take]; rfl)) ?_
                                  with_reducible refine (carouselref01_Put.calls kj14 (IntKind.u64.wrap (a0_2)) 4 t394 _ A18.out).mono ?_
                                  rintro e w30 ⟨rfl, hb⟩
                                  refine ⟨_, rfl, ?_⟩
                                  have n0_ := Aside0.mk (Kd.R_below (by (with_reducible repeat (first | apply Kd.R_alloc | apply Kd.R_drewN | apply Kd.R_drew)); exact HO398.out) hb)
                                  have n1_ := Aside0.mk (blk_below (g := gb393) (o := .cells #[.bool a0_0, .int .u8 a0_1, .int .u32 a0_2, .int .u16 a0_3, .string a0_4] 59 (0, 0)) (by (with_reducible repeat (first | refine blk_drewN ?_ _ | refine blk_drew ?_ | refine blk_alloc ?_ _)); exact BK393.out) hb)
                                  have n2_ := Aside0.mk (below_step (by repeat (first | (with_reducible first | exact HB.out | apply below_alloc | apply pw_below_drewN | apply below_drew1 | refine below_set ?_ GE393.out) | exact HB.out)) hb)
                                  clear HO398
                                  clear BK393
                                  clear HB
                                  have HO398 := n0_
                                  have BK393 := n1_
                                  have HB := n2_
                                  clear n0_ n1_ n2_
                                  (try clear hb)
                                  (try clear hb2)
                                  (try clear hk)
                                  (try clear hi)
                                  refine hK.out _ _ ⟨(blk_cell BK393.out 0).trans rfl, (blk_cell BK393.out 1).trans rfl, (blk_cell BK393.out 2).trans rfl, (blk_cell BK393.out 3).trans rfl, (blk_cell BK393.out 4).trans rfl⟩ (fun hHeld => ?_)
                                  clear hK K
                                  refine norm_ (a' := ?_) ?_ ?_
                                  rotate_left
                                  · show Act.put _ (some 45) _ = _
                                    simp only [Act.put, List.setIfInBounds_toArray, List.set_cons_zero, List.set_cons_succ, i64_w, i32_w]
                                    rfl
                                  exact norm_ (by first | (simp only [putAll, Act.put, List.setIfInBounds_toArray, List.set_cons_zero, List.set_cons_succ]; done) | (simp only [putAll, Act.put, List.setIfInBounds_toArray, List.set_cons_zero, List.set_cons_succ]; rfl)) (hJ6_15_16 (v397) _ ⟨hHeld, (by (with_reducible repeat (first | apply Kd.R_alloc | apply Kd.R_drewN | apply Kd.R_drew)); exact HO398.out), (by (with_reducible repeat (first | refine blk_drewN ?_ _ | refine blk_drew ?_ | refine blk_alloc ?_ _)); exact BK393.out), (by repeat (first | (with_reducible first | exact HB.out | apply below_alloc | apply pw_below_drewN | apply below_drew1 | refine below_set ?_ GE393.out) | exact HB.out))⟩)
                              · skip
                                rintro v397 w29 ⟨hS_, h0_, h1_, h2_⟩
                                have n0_ : Aside0 (Kd.R (Kd.int .u8) 5 w29 w.heap.size (fun _ => True) v397 y396) := ⟨h0_⟩
                                have n1_ : Aside0 (w29.heap[gb393]? = some (.cells #[.bool a0_0, .int .u8 a0_1, .int .u32 a0_2, .int .u16 a0_3, .string a0_4] 59 (0, 0))) := ⟨h1_⟩
                                have n2_ : Aside0 (Below w.heap.size w w29) := ⟨h2_⟩
                                clear BK393
                                clear HB
                                clear h0_ h1_ h2_
                                have HO398 := n0_
                                have BK393 := n1_
                                have HB := n2_
                                clear n0_ n1_ n2_
                                have hHeld : w29.cell? ⟨gb393, 0, none⟩ = some (.bool a0_0) ∧ w29.cell? ⟨gb393, 1, none⟩ = some (.int .u8 a0_1) ∧ w29.cell? ⟨gb393, 2, none⟩ = some (.int .u32 a0_2) ∧ w29.cell? ⟨gb393, 3, none⟩ = some (.int .u16 a0_3) ∧ w29.cell? ⟨gb393, 4, none⟩ = some (.string a0_4) := hS_
                                refine norm_ (a' := ?_) ?_ ?_
                                rotate_left
                                · simp only [putAll, Act.put, List.setIfInBounds_toArray, List.set_cons_zero, List.set_cons_succ]
                                  rfl
                                refine two_ (i := 10) (j := 16) (Ni := some 49) (Nj := some 55) #[true, true, true, true, true, true, true, true, true, true, true, false, true, true, false, true, false, false, false, false, false, false, false] #[true, true, true, true, true, true, true, true, true, true, false, false, true, true, false, true, true, false, false, false, false, false, false] rfl rfl rfl rfl (two_of HT_.out (by kernel_rfl)) (by decide) (by decide) (fun K hK => ?_) (fun K hK => ?_)
                                · skip
                                  refine goes_ Try.func56 (by kernel_rfl) rfl #[.int .u64 (IntKind.u64.wrap (a0_3)), .int .i64 2] (by rfl) rfl rfl (by (try simp only [List.map_toArray, List.map_cons, List.map_nil]); first | done | rfl | (simp only [List.length_drop, List.length_take]; rfl)) ?_
                                  with_reducible refine (carouselref01_Put.calls kj14 (IntKind.u64.wrap (a0_3)) 2 t395 _ A19.out).mono ?_
                                  rintro e w30 ⟨rfl, hb⟩
                                  refine ⟨_, rfl, ?_⟩
                                  have n0_ := Aside0.mk (Kd.R_below (by (with_reducible repeat (first | apply Kd.R_alloc | apply Kd.R_drewN | apply Kd.R_drew)); exact HO398.out) hb)
                                  have n1_ := Aside0.mk (blk_below (g := gb393) (o := .cells #[.bool a0_0, .int .u8 a0_1, .int .u32 a0_2, .int .u16 a0_3, .string a0_4] 59 (0, 0)) (by (with_reducible repeat (first | refine blk_drewN ?_ _ | refine blk_drew ?_ | refine blk_alloc ?_ _)); exact BK393.out) hb)
                                  have n2_ := Aside0.mk (below_step (by repeat (first | (with_reducible first | exact HB.out | apply below_alloc | apply pw_below_drewN | apply below_drew1 | refine below_set ?_ GE393.out) | exact HB.out)) hb)
                                  clear HO398
                                  clear BK393
                                  clear HB
                                  have HO398 := n0_
                                  have BK393 := n1_
                                  have HB := n2_
                                  clear n0_ n1_ n2_
                                  (try clear hb)
                                  (try clear hb2)
                                  (try clear hk)
                                  (try clear hi)
                                  refine hK.out _ _ ⟨(blk_cell BK393.out 0).trans rfl, (blk_cell BK393.out 1).trans rfl, (blk_cell BK393.out 2).trans rfl, (blk_cell BK393.out 3).trans rfl, (blk_cell BK393.out 4).trans rfl⟩ (fun hHeld => ?_)
                                  clear hK K
                                  refine norm_ (a' := ?_) ?_ ?_
                                  rotate_left
                                  · show Act.put _ (some 49) _ = _
                                    simp only [Act.put, List.setIfInBounds_toArray, List.set_cons_zero, List.set_cons_succ, i64_w, i32_w]
                                    rfl
                                  refine pure_ (i := 11) (N := some 50) (v := ?_) (a' := ?_) #[true, true, true, true, true, true, true, true, true, true, true, true, true, true, false, true, false, false, false, false, false, false, false] rfl rfl (any_of HT_.out (by kernel_rfl)) (fun _ _ _ h => h) (Or.inl ⟨by rfl, ?_⟩) ?_ ?_
                                  rotate_left
                                  · intro w'
                                    go_simp
                                    with_reducible rfl
                                  rotate_left
                                  · simp only [Act.put, List.setIfInBounds_toArray, List.set_cons_zero, List.set_cons_succ, i64_w, i32_w]
                                    rfl
                                  refine pure_ (i := 14) (N := some 53) (v := ?_) (a' := ?_) #[true, true, true, true, true, true, true, true, true, true, true, true, true, true, true, true, false, false, false, false, false, false, false] rfl rfl (any_of HT_.out (by kernel_rfl)) (fun _ _ _ h => h) (Or.inl ⟨by rfl, ?_⟩) ?_ ?_
                                  rotate_left
                                  · intro w'
                                    go_simp
                                    with_reducible rfl
                                  rotate_left
                                  · simp only [Act.put, List.setIfInBounds_toArray, List.set_cons_zero, List.set_cons_succ, i64_w, i32_w]
                                    rfl
                                  exact norm_ (by first | (simp only [putAll, Act.put, List.setIfInBounds_toArray, List.set_cons_zero, List.set_cons_succ]; done) | (simp only [putAll, Act.put, List.setIfInBounds_toArray, List.set_cons_zero, List.set_cons_succ]; rfl)) (hJ6_10_15 (v397) _ ⟨hHeld, (by (with_reducible repeat (first | apply Kd.R_alloc | apply Kd.R_drewN | apply Kd.R_drew)); exact HO398.out), (by (with_reducible repeat (first | refine blk_drewN ?_ _ | refine blk_drew ?_ | refine blk_alloc ?_ _)); exact BK393.out), (by repeat (first | (with_reducible first | exact HB.out | apply below_alloc | apply pw_below_drewN | apply below_drew1 | refine below_set ?_ GE393.out) | exact HB.out))⟩)
                                · skip
                                  have hcv30 := own_string (P := Try.prog) Try.underlying79 Try.underlying5 Try.underlying9 (Kd.own_of_R HO398.out)
                                  refine value_ (w1 := ?_) (v := ?_) (by rfl) rfl ?_ ?_
                                  rotate_left 2
                                  · go_simp
                                    constructor
                                    · rfl
                                    · rfl
                                  clear hcv30
                                  refine hK.out _ _ ⟨(blk_cell BK393.out 0).trans rfl, (blk_cell BK393.out 1).trans rfl, (blk_cell BK393.out 2).trans rfl, (blk_cell BK393.out 3).trans rfl, (blk_cell BK393.out 4).trans rfl⟩ (fun hHeld => ?_)
                                  clear hK K
                                  refine norm_ (a' := ?_) ?_ ?_
                                  rotate_left
                                  · show Act.put _ (some 55) _ = _
                                    simp only [Act.put, List.setIfInBounds_toArray, List.set_cons_zero, List.set_cons_succ, i64_w, i32_w]
                                    rfl
                                  exact norm_ (by first | (simp only [putAll, Act.put, List.setIfInBounds_toArray, List.set_cons_zero, List.set_cons_succ]; done) | (simp only [putAll, Act.put, List.setIfInBounds_toArray, List.set_cons_zero, List.set_cons_succ]; rfl)) (hJ6_15_16 (v397) _ ⟨hHeld, (by (with_reducible repeat (first | apply Kd.R_alloc | apply Kd.R_drewN | apply Kd.R_drew)); exact HO398.out), (by (with_reducible repeat (first | refine blk_drewN ?_ _ | refine blk_drew ?_ | refine blk_alloc ?_ _)); exact BK393.out), (by repeat (first | (with_reducible first | exact HB.out | apply below_alloc | apply pw_below_drewN | apply below_drew1 | refine below_set ?_ GE393.out) | exact HB.out))⟩)
                            · skip
                              rintro _ w28 ⟨hS_, h0_, h1_⟩
                              have n0_ : Aside0 (w28.heap[gb393]? = some (.cells #[.bool a0_0, .int .u8 a0_1, .int .u32 a0_2, .int .u16 a0_3, .string a0_4] 59 (0, 0))) := ⟨h0_⟩
                              have n1_ : Aside0 (Below w.heap.size w w28) := ⟨h1_⟩
                              clear BK393
                              clear HB
                              clear h0_ h1_
                              have BK393 := n0_
                              have HB := n1_
                              clear n0_ n1_
                              have hHeld : w28.cell? ⟨gb393, 0, none⟩ = some (.bool a0_0) ∧ w28.cell? ⟨gb393, 1, none⟩ = some (.int .u8 a0_1) ∧ w28.cell? ⟨gb393, 2, none⟩ = some (.int .u32 a0_2) ∧ w28.cell? ⟨gb393, 3, none⟩ = some (.int .u16 a0_3) ∧ w28.cell? ⟨gb393, 4, none⟩ = some (.string a0_4) := hS_
                              refine norm_ (a' := ?_) ?_ ?_
                              rotate_left
                              · simp only [putAll, Act.put, List.setIfInBounds_toArray, List.set_cons_zero, List.set_cons_succ]
                                rfl
                              refine one_ (i := 15) (N := some 54) #[true, true, true, true, true, true, true, true, true, true, true, true, true, true, true, true, false, false, false, false, false, false, false] rfl rfl (one_of HT_.out (by kernel_rfl)) (by decide) (fun K hK => ?_)
                              refine Kd.R_make_step (Kd.int .u8) _ 5 (by rfl) (N := 54) rfl 79 _ _ rfl 16 rfl rfl Try.underlying79 (.int .u8 0) 1 info5 rfl (by decide) (by omega) 0 (ok := fun _ => True) (okp := fun _ => True) rfl (fun _ hk => hk) trivial (by omega) (by omega) (Below.refl _ _) (Nat.le_refl _) ?_
                              intro v397 w29 ho30 hb hg_ hnew_
                              clear hg_ hnew_
                              (first | rw [← Ny396.out] at ho30 | (simp only [Int.reduceToNat] at ho30; rw [← Ny396.out] at ho30))
                              have n0_ := Aside0.mk (Kd.R_lower ho30 (below_size (by repeat (first | (with_reducible first | exact HB.out | apply below_alloc | apply pw_below_drewN | apply below_drew1 | refine below_set ?_ GE393.out) | exact HB.out))))
                              have n1_ := Aside0.mk (blk_below (g := gb393) (o := .cells #[.bool a0_0, .int .u8 a0_1, .int .u32 a0_2, .int .u16 a0_3, .string a0_4] 59 (0, 0)) (by (with_reducible repeat (first | refine blk_drewN ?_ _ | refine blk_drew ?_ | refine blk_alloc ?_ _)); exact BK393.out) hb)
                              have n2_ := Aside0.mk (below_step (by repeat (first | (with_reducible first | exact HB.out | apply below_alloc | apply pw_below_drewN | apply below_drew1 | refine below_set ?_ GE393.out) | exact HB.out)) hb)
                              clear BK393
                              clear HB
                              have HO398 := n0_
                              have BK393 := n1_
                              have HB := n2_
                              clear n0_ n1_ n2_
                              clear hb ho30
                              refine hK.out _ _ ⟨(blk_cell BK393.out 0).trans rfl, (blk_cell BK393.out 1).trans rfl, (blk_cell BK393.out 2).trans rfl, (blk_cell BK393.out 3).trans rfl, (blk_cell BK393.out 4).trans rfl⟩ (fun hHeld => ?_)
                              clear hK K
                              refine norm_ (a' := ?_) ?_ ?_
                              rotate_left
                              · show Act.put _ (some 54) _ = _
                                simp only [Act.put, List.setIfInBounds_toArray, List.set_cons_zero, List.set_cons_succ, i64_w, i32_w]
                                rfl
                              exact norm_ (by first | (simp only [putAll, Act.put, List.setIfInBounds_toArray, List.set_cons_zero, List.set_cons_succ]; done) | (simp only [putAll, Act.put, List.setIfInBounds_toArray, List.set_cons_zero, List.set_cons_succ]; rfl)) (hJ6_10_15 (v397) _ ⟨hHeld, (by (with_reducible repeat (first | apply Kd.R_alloc | apply Kd.R_drewN | apply Kd.R_drew)); exact HO398.out), (by (with_reducible repeat (first | refine blk_drewN ?_ _ | refine blk_drew ?_ | refine blk_alloc ?_ _)); exact BK393.out), (by repeat (first | (with_reducible first | exact HB.out | apply below_alloc | apply pw_below_drewN | apply below_drew1 | refine below_set ?_ GE393.out) | exact HB.out))⟩)
                          · skip
                            rintro v397 w30 ⟨hS_, h0_, h1_, h2_⟩
                            have n0_ : Aside0 (Kd.R (Kd.int .u8) 5 w30 w.heap.size (fun _ => True) v397 y396) := ⟨h0_⟩
                            have n1_ : Aside0 (w30.heap[gb393]? = some (.cells #[.bool a0_0, .int .u8 a0_1, .int .u32 a0_2, .int .u16 a0_3, .string a0_4] 59 (0, 0))) := ⟨h1_⟩
                            have n2_ : Aside0 (Below w.heap.size w w30) := ⟨h2_⟩
                            clear BK393
                            clear HB
                            clear h0_ h1_ h2_
                            have HO398 := n0_
                            have BK393 := n1_
                            have HB := n2_
                            clear n0_ n1_ n2_
                            have hHeld : w30.cell? ⟨gb393, 0, none⟩ = some (.bool a0_0) ∧ w30.cell? ⟨gb393, 1, none⟩ = some (.int .u8 a0_1) ∧ w30.cell? ⟨gb393, 2, none⟩ = some (.int .u32 a0_2) ∧ w30.cell? ⟨gb393, 3, none⟩ = some (.int .u16 a0_3) ∧ w30.cell? ⟨gb393, 4, none⟩ = some (.string a0_4) := hS_
                            refine norm_ (a' := ?_) ?_ ?_
                            rotate_left
                            · simp only [putAll, Act.put, List.setIfInBounds_toArray, List.set_cons_zero, List.set_cons_succ]
                              rfl
                            refine one_ (i := 10) (N := some 49) #[true, true, true, true, true, true, true, true, true, true, true, false, true, true, false, true, true, false, false, false, false, false, false] rfl rfl (one_of HT_.out (by kernel_rfl)) (by decide) (fun K hK => ?_)
                            refine goes_ Try.func56 (by kernel_rfl) rfl #[.int .u64 (IntKind.u64.wrap (a0_3)), .int .i64 2] (by rfl) rfl rfl (by (try simp only [List.map_toArray, List.map_cons, List.map_nil]); first | done | rfl | (simp only [List.length_drop, List.length_take]; rfl)) ?_
                            with_reducible refine (carouselref01_Put.calls kj14 (IntKind.u64.wrap (a0_3)) 2 t395 _ A19.out).mono ?_
                            rintro e w31 ⟨rfl, hb⟩
                            refine ⟨_, rfl, ?_⟩
                            have n0_ := Aside0.mk (Kd.R_below (by (with_reducible repeat (first | apply Kd.R_alloc | apply Kd.R_drewN | apply Kd.R_drew)); exact HO398.out) hb)
                            have n1_ := Aside0.mk (blk_below (g := gb393) (o := .cells #[.bool a0_0, .int .u8 a0_1, .int .u32 a0_2, .int .u16 a0_3, .string a0_4] 59 (0, 0)) (by (with_reducible repeat (first | refine blk_drewN ?_ _ | refine blk_drew ?_ | refine blk_alloc ?_ _)); exact BK393.out) hb)
                            have n2_ := Aside0.mk (below_step (by repeat (first | (with_reducible first | exact HB.out | apply below_alloc | apply pw_below_drewN | apply below_drew1 | refine below_set ?_ GE393.out) | exact HB.out)) hb)
                            clear HO398
                            clear BK393
                            clear HB
                            have HO398 := n0_
                            have BK393 := n1_
                            have HB := n2_
                            clear n0_ n1_ n2_
                            (try clear hb)
                            (try clear hb2)
                            (try clear hk)
                            (try clear hi)
                            refine hK.out _ _ ⟨(blk_cell BK393.out 0).trans rfl, (blk_cell BK393.out 1).trans rfl, (blk_cell BK393.out 2).trans rfl, (blk_cell BK393.out 3).trans rfl, (blk_cell BK393.out 4).trans rfl⟩ (fun hHeld => ?_)
                            clear hK K
                            refine norm_ (a' := ?_) ?_ ?_
                            rotate_left
                            · show Act.put _ (some 49) _ = _
                              simp only [Act.put, List.setIfInBounds_toArray, List.set_cons_zero, List.set_cons_succ, i64_w, i32_w]
                              rfl
                            refine pure_ (i := 11) (N := some 50) (v := ?_) (a' := ?_) #[true, true, true, true, true, true, true, true, true, true, true, true, true, true, false, true, true, false, false, false, false, false, false] rfl rfl (any_of HT_.out (by kernel_rfl)) (fun _ _ _ h => h) (Or.inl ⟨by rfl, ?_⟩) ?_ ?_
                            rotate_left
                            · intro w'
                              go_simp
                              with_reducible rfl
                            rotate_left
                            · simp only [Act.put, List.setIfInBounds_toArray, List.set_cons_zero, List.set_cons_succ, i64_w, i32_w]
                              rfl
                            refine pure_ (i := 14) (N := some 53) (v := ?_) (a' := ?_) #[true, true, true, true, true, true, true, true, true, true, true, true, true, true, true, true, true, false, false, false, false, false, false] rfl rfl (any_of HT_.out (by kernel_rfl)) (fun _ _ _ h => h) (Or.inl ⟨by rfl, ?_⟩) ?_ ?_
                            rotate_left
                            · intro w'
                              go_simp
                              with_reducible rfl
                            rotate_left
                            · simp only [Act.put, List.setIfInBounds_toArray, List.set_cons_zero, List.set_cons_succ, i64_w, i32_w]
                              rfl
                            exact norm_ (by first | (simp only [putAll, Act.put, List.setIfInBounds_toArray, List.set_cons_zero, List.set_cons_succ]; done) | (simp only [putAll, Act.put, List.setIfInBounds_toArray, List.set_cons_zero, List.set_cons_succ]; rfl)) (hJ6_10_15_16 (v397) _ ⟨hHeld, (by (with_reducible repeat (first | apply Kd.R_alloc | apply Kd.R_drewN | apply Kd.R_drew)); exact HO398.out), (by (with_reducible repeat (first | refine blk_drewN ?_ _ | refine blk_drew ?_ | refine blk_alloc ?_ _)); exact BK393.out), (by repeat (first | (with_reducible first | exact HB.out | apply below_alloc | apply pw_below_drewN | apply below_drew1 | refine below_set ?_ GE393.out) | exact HB.out))⟩)
                        · skip
                          rintro v397 w30 ⟨hS_, h0_, h1_, h2_⟩
                          have n0_ : Aside0 (Kd.R (Kd.int .u8) 5 w30 w.heap.size (fun _ => True) v397 y396) := ⟨h0_⟩
                          have n1_ : Aside0 (w30.heap[gb393]? = some (.cells #[.bool a0_0, .int .u8 a0_1, .int .u32 a0_2, .int .u16 a0_3, .string a0_4] 59 (0, 0))) := ⟨h1_⟩
                          have n2_ : Aside0 (Below w.heap.size w w30) := ⟨h2_⟩
                          clear BK393
                          clear HB
                          clear h0_ h1_ h2_
                          have HO398 := n0_
                          have BK393 := n1_
                          have HB := n2_
                          clear n0_ n1_ n2_
                          have hHeld : w30.cell? ⟨gb393, 0, none⟩ = some (.bool a0_0) ∧ w30.cell? ⟨gb393, 1, none⟩ = some (.int .u8 a0_1) ∧ w30.cell? ⟨gb393, 2, none⟩ = some (.int .u32 a0_2) ∧ w30.cell? ⟨gb393, 3, none⟩ = some (.int .u16 a0_3) ∧ w30.cell? ⟨gb393, 4, none⟩ = some (.string a0_4) := hS_
                          refine norm_ (a' := ?_) ?_ ?_
                          rotate_left
                          · simp only [putAll, Act.put, List.setIfInBounds_toArray, List.set_cons_zero, List.set_cons_succ]
                            rfl
                          refine one_ (i := 16) (N := some 55) #[true, true, true, true, true, true, true, true, true, true, true, true, true, true, true, true, true, false, false, false, false, false, false] rfl rfl (one_of HT_.out (by kernel_rfl)) (by decide) (fun K hK => ?_)
                          have hcv31 := own_string (P := Try.prog) Try.underlying79 Try.underlying5 Try.underlying9 (Kd.own_of_R HO398.out)
                          refine value_ (w1 := ?_) (v := ?_) (by rfl) rfl ?_ ?_
                          rotate_left 2
                          · go_simp
                            constructor
                            · rfl
                            · rfl
                          clear hcv31
                          refine hK.out _ _ ⟨(blk_cell BK393.out 0).trans rfl, (blk_cell BK393.out 1).trans rfl, (blk_cell BK393.out 2).trans rfl, (blk_cell BK393.out 3).trans rfl, (blk_cell BK393.out 4).trans rfl⟩ (fun hHeld => ?_)
                          clear hK K
                          refine norm_ (a' := ?_) ?_ ?_
                          rotate_left
                          · show Act.put _ (some 55) _ = _
                            simp only [Act.put, List.setIfInBounds_toArray, List.set_cons_zero, List.set_cons_succ, i64_w, i32_w]
                            rfl
                          exact norm_ (by first | (simp only [putAll, Act.put, List.setIfInBounds_toArray, List.set_cons_zero, List.set_cons_succ]; done) | (simp only [putAll, Act.put, List.setIfInBounds_toArray, List.set_cons_zero, List.set_cons_succ]; rfl)) (hJ6_10_15_16 (v397) _ ⟨hHeld, (by (with_reducible repeat (first | apply Kd.R_alloc | apply Kd.R_drewN | apply Kd.R_drew)); exact HO398.out), (by (with_reducible repeat (first | refine blk_drewN ?_ _ | refine blk_drew ?_ | refine blk_alloc ?_ _)); exact BK393.out), (by repeat (first | (with_reducible first | exact HB.out | apply below_alloc | apply pw_below_drewN | apply below_drew1 | refine below_set ?_ GE393.out) | exact HB.out))⟩)
                      rintro v397 w31 ⟨hS_, h0_, h1_, h2_⟩
                      have n0_ : Aside0 (Kd.R (Kd.int .u8) 5 w31 w.heap.size (fun _ => True) v397 y396) := ⟨h0_⟩
                      have n1_ : Aside0 (w31.heap[gb393]? = some (.cells #[.bool a0_0, .int .u8 a0_1, .int .u32 a0_2, .int .u16 a0_3, .string a0_4] 59 (0, 0))) := ⟨h1_⟩
                      have n2_ : Aside0 (Below w.heap.size w w31) := ⟨h2_⟩
                      clear BK393
                      clear HB
                      clear h0_ h1_ h2_
                      have HO398 := n0_
                      have BK393 := n1_
                      have HB := n2_
                      clear n0_ n1_ n2_
                      have hHeld : w31.cell? ⟨gb393, 0, none⟩ = some (.bool a0_0) ∧ w31.cell? ⟨gb393, 1, none⟩ = some (.int .u8 a0_1) ∧ w31.cell? ⟨gb393, 2, none⟩ = some (.int .u32 a0_2) ∧ w31.cell? ⟨gb393, 3, none⟩ = some (.int .u16 a0_3) ∧ w31.cell? ⟨gb393, 4, none⟩ = some (.string a0_4) := hS_
                      refine norm_ (a' := ?_) ?_ ?_
                      rotate_left
                      · simp only [putAll, Act.put, List.setIfInBounds_toArray, List.set_cons_zero, List.set_cons_succ]
                        rfl
                      refine pure_ (i := 17) (N := some 56) (v := ?_) (a' := ?_) #[true, true, true, true, true, true, true, true, true, true, true, true, true, true, true, true, true, true, false, false, false, false, false] rfl rfl (any_of HT_.out (by kernel_rfl)) (fun _ _ _ h => h) (Or.inl ⟨by rfl, ?_⟩) ?_ ?_
                      rotate_left
                      · intro w'
                        go_simp
                        with_reducible rfl
                      rotate_left
                      · simp only [Act.put, List.setIfInBounds_toArray, List.set_cons_zero, List.set_cons_succ, i64_w, i32_w]
                        rfl
                      refine one_ (i := 18) (N := some 57) #[true, true, true, true, true, true, true, true, true, true, true, true, true, true, true, true, true, true, true, false, false, false, false] rfl rfl (one_of HT_.out (by kernel_rfl)) (by decide) (fun K hK => ?_)
                      refine goes_ Try.func55 (by kernel_rfl) rfl #[.agg #[.int .u8 a1, .int .u8 0, .int .u8 1, .int .u8 x6_14, .int .u8 70], .string (((t394 ++ t395) ++ a0_4) ++ (strOfNums y396))] (by rfl) rfl rfl (by (try simp only [List.map_toArray, List.map_cons, List.map_nil]); first | done | rfl | (simp only [List.length_drop, List.length_take]; rfl)) ?_
                      with_reducible refine (carouselref04_Close.calls kj14 a1 0 1 x6_14 70 (((t394 ++ t395) ++ a0_4) ++ (strOfNums y396)) t399 t400 _ A24.out).mono ?_
                      rintro e w32 ⟨rfl, hb⟩
                      refine ⟨_, rfl, ?_⟩
                      have n0_ := Aside0.mk (Kd.R_below (by (with_reducible repeat (first | apply Kd.R_alloc | apply Kd.R_drewN | apply Kd.R_drew)); exact HO398.out) hb)
                      have n1_ := Aside0.mk (blk_below (g := gb393) (o := .cells #[.bool a0_0, .int .u8 a0_1, .int .u32 a0_2, .int .u16 a0_3, .string a0_4] 59 (0, 0)) (by (with_reducible repeat (first | refine blk_drewN ?_ _ | refine blk_drew ?_ | refine blk_alloc ?_ _)); exact BK393.out) hb)
                      have n2_ := Aside0.mk (below_step (by repeat (first | (with_reducible first | exact HB.out | apply below_alloc | apply pw_below_drewN | apply below_drew1 | refine below_set ?_ GE393.out) | exact HB.out)) hb)
                      clear HO398
                      clear BK393
                      clear HB
                      have HO398 := n0_
                      have BK393 := n1_
                      have HB := n2_
                      clear n0_ n1_ n2_
                      (try clear hb)
                      (try clear hb2)
                      (try clear hk)
                      (try clear hi)
                      refine hK.out _ _ ⟨(blk_cell BK393.out 0).trans rfl, (blk_cell BK393.out 1).trans rfl, (blk_cell BK393.out 2).trans rfl, (blk_cell BK393.out 3).trans rfl, (blk_cell BK393.out 4).trans rfl⟩ (fun hHeld => ?_)
                      clear hK K
                      refine norm_ (a' := ?_) ?_ ?_
                      rotate_left
                      · show Act.put _ (some 57) _ = _
                        simp only [Act.put, List.setIfInBounds_toArray, List.set_cons_zero, List.set_cons_succ, i64_w, i32_w]
                        rfl
                      refine pure_ (i := 19) (N := some 58) (v := ?_) (a' := ?_) #[true, true, true, true, true, true, true, true, true, true, true, true, true, true, true, true, true, true, true, true, false, false, false] rfl rfl (any_of HT_.out (by kernel_rfl)) (fun _ _ _ h => h) (Or.inl ⟨by rfl, ?_⟩) ?_ ?_
                      rotate_left
                      · intro w'
                        go_simp
                        with_reducible rfl
                      rotate_left
                      · simp only [Act.put, List.setIfInBounds_toArray, List.set_cons_zero, List.set_cons_succ, i64_w, i32_w]
                        rfl
                      refine pure_ (i := 20) (N := some 59) (v := ?_) (a' := ?_) #[true, true, true, true, true, true, true, true, true, true, true, true, true, true, true, true, true, true, true, true, true, false, false] rfl rfl (any_of HT_.out (by kernel_rfl)) (fun _ _ _ h => h) (Or.inl ⟨by rfl, ?_⟩) ?_ ?_
                      rotate_left
                      · intro w'
                        go_simp
                        with_reducible rfl
                      rotate_left
                      · simp only [Act.put, List.setIfInBounds_toArray, List.set_cons_zero, List.set_cons_succ, i64_w, i32_w]
                        rfl
                      refine pure_ (i := 21) (N := some 4) (v := ?_) (a' := ?_) #[true, true, true, true, true, true, true, true, true, true, true, true, true, true, true, true, true, true, true, true, true, true, false] rfl rfl (any_of HT_.out (by kernel_rfl)) (fun _ _ _ h => h) (Or.inl ⟨by rfl, ?_⟩) ?_ ?_
                      rotate_left
                      · intro w'
                        go_simp
                        with_reducible rfl
                      rotate_left
                      · simp only [Act.put, List.setIfInBounds_toArray, List.set_cons_zero, List.set_cons_succ, i64_w, i32_w]
                        rfl
                      refine pure_ (i := 22) (N := some 5) (v := ?_) (a' := ?_) #[true, true, true, true, true, true, true, true, true, true, true, true, true, true, true, true, true, true, true, true, true, true, true] rfl rfl (any_of HT_.out (by kernel_rfl)) (fun _ _ _ h => h) (Or.inl ⟨by rfl, ?_⟩) ?_ ?_
                      rotate_left
                      · intro w'
                        go_simp
                        with_reducible rfl
                      rotate_left
                      · simp only [Act.put, List.setIfInBounds_toArray, List.set_cons_zero, List.set_cons_succ, i64_w, i32_w]
                        rfl
                      refine done_ (done_of HT_.out (by kernel_rfl)) ?_
                      try go_wp2
                      go_ret2
                      exact ⟨by first | rfl | (simp [errW_none, errW_some] <;> rfl) | (simp [*, errW_none, errW_some] <;> rfl), by repeat (first | (with_reducible first | exact HB.out | apply below_alloc | apply pw_below_drewN | apply below_drew1 | refine below_set ?_ GE393.out) | exact HB.out)⟩
                    · rw [if_neg c23] at H
                      exact absurd H (by simp)
                  · rw [if_neg c22] at H
                    exact absurd H (by simp)
                · rw [if_neg c21] at H
                  exact absurd H (by simp)
              · rw [if_neg c20] at H
                exact absurd H (by simp)
        · rw [if_neg c14] at H
          have c14b0 : ((a0_4.size : Int) == 48) = false := beq_eq_false_iff_ne.mpr c14
          have c14b1 : ((a0_4.size : Int) != 48) = true := bne_iff_ne.mpr c14
          simp only [Option.some.injEq, Prod.mk.injEq] at H
          obtain ⟨rfl, rfl⟩ := H
          have hcz33_0 : wc.cell? ⟨gb393, 0, none⟩ = some (.bool a0_0) := (blk_cell BK393.out 0).trans rfl
          have hcz33_1 : wc.cell? ⟨gb393, 1, none⟩ = some (.int .u8 a0_1) := (blk_cell BK393.out 1).trans rfl
          have hcz33_2 : wc.cell? ⟨gb393, 2, none⟩ = some (.int .u32 a0_2) := (blk_cell BK393.out 2).trans rfl
          have hcz33_3 : wc.cell? ⟨gb393, 3, none⟩ = some (.int .u16 a0_3) := (blk_cell BK393.out 3).trans rfl
          have hcz33_4 : wc.cell? ⟨gb393, 4, none⟩ = some (.string a0_4) := (blk_cell BK393.out 4).trans rfl
          have hfz33_0 := blk_frozen BK393.out 0
          have hfz33_1 := blk_frozen BK393.out 1
          have hfz33_2 := blk_frozen BK393.out 2
          have hfz33_3 := blk_frozen BK393.out 3
          have hfz33_4 := blk_frozen BK393.out 4
          go_wp2
          go_ret2
          exact ⟨by first | rfl | (simp [errW_none, errW_some] <;> rfl) | (simp [*, errW_none, errW_some] <;> rfl), by repeat (first | (with_reducible first | exact HB.out | apply below_alloc | apply pw_below_drewN | apply below_drew1 | refine below_set ?_ GE393.out) | exact HB.out)⟩

end Go.Proofs.Ytmdaaphjndjakaf.PAll
