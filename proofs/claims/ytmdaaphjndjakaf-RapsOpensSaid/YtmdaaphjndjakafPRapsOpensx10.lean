-- Written by a program of this work, after the translation.
import Derived.Test.YtmdaaphjndjakafPRapsOpensx0
import Derived.Test.YtmdaaphjndjakafPRapsOpensx9
namespace Go.Proofs.Ytmdaaphjndjakaf.PRapsOpens
open Go.RowKit Go.Proofs.YtmdaaphjndjakafW.PrintWords Go.Proofs.YtmdaaphjndjakafW.PrintLast Go.Proofs.YtmdaaphjndjakafW.PrintMore
attribute [local go_sem] max2_int min2_int max_two min_two max_three min_three max_four min_four   -- for this text's walks alone
set_option linter.unusedVariables false
set_option linter.unusedSimpArgs false

/-! ### carouselref05_wrong: function 50 -/
mutual
def carouselref05_wrong.j0 : Nat → Bool → Int → Bool → Bool → Bool → Int → Option (Int)
  | 0, _, _, _, _, _, _ => none
  | k + 1, x20, x238000, x238001, x238002, x238003, x238004 => if x20 = true then (some 8) else (if x238001 = true then (carouselref05_wrong.j1 k (x238000 != 0) x238000 x238001 x238002 x238003 x238004) else (carouselref05_wrong.j1 k false x238000 x238001 x238002 x238003 x238004))
def carouselref05_wrong.j1 : Nat → Bool → Int → Bool → Bool → Bool → Int → Option (Int)
  | 0, _, _, _, _, _, _ => none
  | k + 1, x27, x238000, x238001, x238002, x238003, x238004 => if x27 = true then (some 3) else ((carouselref02_May.f x238004).bind fun t238 => (if t238 = true then ((carouselref02_Group.f x238004).bind fun t239 => (if t239 = true then (some 4) else (some 0))) else (some 4)))
end
def carouselref05_wrong.f (k : Nat) (a0_0 : Int) (a0_1 : Bool) (a0_2 : Bool) (a0_3 : Bool) (a0_4 : Int) : Option (Int) := if a0_0 = 0 then (carouselref05_wrong.j0 k false a0_0 a0_1 a0_2 a0_3 a0_4) else (if a0_0 = 7 then (carouselref05_wrong.j0 k false a0_0 a0_1 a0_2 a0_3 a0_4) else (if a0_0 = 11 then (carouselref05_wrong.j0 k false a0_0 a0_1 a0_2 a0_3 a0_4) else (carouselref05_wrong.j0 k (a0_0 != 13) a0_0 a0_1 a0_2 a0_3 a0_4)))
theorem carouselref05_wrong.mono_l : ∀ k, (∀ y0 y1 y2 y3 y4 y5, LeO (carouselref05_wrong.j0 k y0 y1 y2 y3 y4 y5) (carouselref05_wrong.j0 (k + 1) y0 y1 y2 y3 y4 y5)) ∧ (∀ y0 y1 y2 y3 y4 y5, LeO (carouselref05_wrong.j1 k y0 y1 y2 y3 y4 y5) (carouselref05_wrong.j1 (k + 1) y0 y1 y2 y3 y4 y5))
 | 0 => ⟨fun _ _ _ _ _ _ r h => by simp [carouselref05_wrong.j0] at h, fun _ _ _ _ _ _ r h => by simp [carouselref05_wrong.j1] at h⟩
 | k + 1 => by
  obtain ⟨ih0, ih1⟩ := carouselref05_wrong.mono_l k
  refine ⟨?_, ?_⟩
  ·
   intro y0 y1 y2 y3 y4 y5
   unfold carouselref05_wrong.j0
   repeat' first
   | (with_reducible exact ih0 _ _ _ _ _ _)
   | (with_reducible exact ih1 _ _ _ _ _ _)
   | (with_reducible exact LeO.refl _)
   | (with_reducible exact LeO.none _)
   | (with_reducible refine LeO.ite ?_ ?_)
   | (with_reducible refine LeO.bind ?_ (fun _ => ?_))
   | exact ih0 _ _ _ _ _ _
   | exact ih1 _ _ _ _ _ _
   | exact LeO.none _
   | refine LeO.ite ?_ ?_
   | refine LeO.bind ?_ (fun _ => ?_)
  ·
   intro y0 y1 y2 y3 y4 y5
   unfold carouselref05_wrong.j1
   repeat' first
   | (with_reducible exact ih0 _ _ _ _ _ _)
   | (with_reducible exact ih1 _ _ _ _ _ _)
   | (with_reducible exact LeO.refl _)
   | (with_reducible exact LeO.none _)
   | (with_reducible refine LeO.ite ?_ ?_)
   | (with_reducible refine LeO.bind ?_ (fun _ => ?_))
   | exact ih0 _ _ _ _ _ _
   | exact ih1 _ _ _ _ _ _
   | exact LeO.none _
   | refine LeO.ite ?_ ?_
   | refine LeO.bind ?_ (fun _ => ?_)
theorem carouselref05_wrong.mono : ∀ a0 a1 a2 a3 a4 k, LeO (carouselref05_wrong.f k a0 a1 a2 a3 a4) (carouselref05_wrong.f (k + 1) a0 a1 a2 a3 a4) := by
 intro a0 a1 a2 a3 a4 k
 obtain ⟨ih0, ih1⟩ := carouselref05_wrong.mono_l k
 unfold carouselref05_wrong.f
 repeat' first
   | (with_reducible exact ih0 _ _ _ _ _ _)
   | (with_reducible exact ih1 _ _ _ _ _ _)
   | (with_reducible exact LeO.refl _)
   | (with_reducible exact LeO.none _)
   | (with_reducible refine LeO.ite ?_ ?_)
   | (with_reducible refine LeO.bind ?_ (fun _ => ?_))
   | exact ih0 _ _ _ _ _ _
   | exact ih1 _ _ _ _ _ _
   | exact LeO.none _
   | refine LeO.ite ?_ ?_
   | refine LeO.bind ?_ (fun _ => ?_)
set_option maxHeartbeats 8000000 in
set_option maxRecDepth 100000 in
theorem carouselref05_wrong.calls (k : Nat) (a0_0 : Int) (a0_1 : Bool) (a0_2 : Bool) (a0_3 : Bool) (a0_4 : Int) (r : Int) (w : World) (h : carouselref05_wrong.f k a0_0 a0_1 a0_2 a0_3 a0_4 = some r) :
  Calls Try.prog 50 #[.agg #[.int .u8 a0_0, .bool a0_1, .bool a0_2, .bool a0_3, .int .u64 a0_4]] w fun e w' => e = .returned (.int .i64 r) ∧ Below w.heap.size w w' := by
 have hu34 := Try.underlying34
 have HB := Aside0.mk (Below.refl w.heap.size w)
 have H : (if a0_0 = 0 then (carouselref05_wrong.j0 k false a0_0 a0_1 a0_2 a0_3 a0_4) else (if a0_0 = 7 then (carouselref05_wrong.j0 k false a0_0 a0_1 a0_2 a0_3 a0_4) else (if a0_0 = 11 then (carouselref05_wrong.j0 k false a0_0 a0_1 a0_2 a0_3 a0_4) else (carouselref05_wrong.j0 k (a0_0 != 13) a0_0 a0_1 a0_2 a0_3 a0_4)))) = some r := h
 clear h
 have HC2 := Aside0.mk H
 clear H
 go_enter Try.func50, Try.ntmps50
 go_upto_region 1 with (first | ((with_reducible refine gate_dst (N := 1) rfl ?_); refine box_event ?hg (N := 1) ?hd (cs := #[.int .u8 a0_0, .bool a0_1, .bool a0_2, .bool a0_3, .int .u64 a0_4]) (t := 34) ?hr ?_; (case hd => rfl); (case hg => rfl); (case hr => first | (go_simp; done) | (go_simp; rfl)); intro gb237 hg w3 hbox hb; have n0_ := Aside0.mk (below_step (by repeat (first | (with_reducible first | exact HB.out | apply below_alloc | apply pw_below_drewN | apply below_drew1) | exact HB.out)) hb); have n1_ := Aside0.mk (hbox); have n2_ := Aside0.mk ((by rw [hg]; exact (below_size (by repeat (first | (with_reducible first | exact HB.out | apply below_alloc | apply pw_below_drewN | apply below_drew1) | exact HB.out))) : w.heap.size ≤ gb237)); have n3_ := Aside0.mk ((by rw [hg]; exact (below_size (by repeat (first | (with_reducible first | exact HB.out | apply below_alloc | apply pw_below_drewN | apply below_drew1) | exact HB.out))) : w.heap.size ≤ gb237)); clear HB; have HB := n0_; have BK237 := n1_; have GW237 := n2_; have GE237 := n3_; clear n0_ n1_ n2_ n3_; clear hb hbox hg))
 (try simp only [Act.put, List.setIfInBounds_toArray, List.set_cons_zero, List.set_cons_succ])
 go_cut [20] (fun v20 wc => ∃ (kq : Nat) (x20_1 : Bool), v20 = .bool x20_1 ∧ Aside0 (carouselref05_wrong.j0 kq x20_1 a0_0 a0_1 a0_2 a0_3 a0_4 = some r) ∧ Aside0 (kq ≤ k) ∧ Aside0 (wc.heap[gb237]? = some (.cells #[.int .u8 a0_0, .bool a0_1, .bool a0_2, .bool a0_3, .int .u64 a0_4] 34 (0, 0))) ∧ Aside0 (Below w.heap.size w wc))
 case first =>
  have H := HC2.out
  clear HC2
  by_cases c4 : a0_0 = 0
  ·
   rw [if_pos c4] at H
   have c4b0 : (a0_0 == 0) = true := beq_iff_eq.mpr c4
   have c4b1 : (a0_0 != 0) = false := bne_eq_false_iff_eq.mpr c4
   clear c4
   (first | rw [c4b0] | (simp only [i64_w, i32_w]; rw [c4b0]) | skip)
   have H' := Aside0.mk H
   clear H
   have hcz5_0 : w3.cell? ⟨gb237, 0, none⟩ = some (.int .u8 a0_0) := (blk_cell BK237.out 0).trans rfl
   have hcz5_1 : w3.cell? ⟨gb237, 1, none⟩ = some (.bool a0_1) := (blk_cell BK237.out 1).trans rfl
   have hcz5_2 : w3.cell? ⟨gb237, 2, none⟩ = some (.bool a0_2) := (blk_cell BK237.out 2).trans rfl
   have hcz5_3 : w3.cell? ⟨gb237, 3, none⟩ = some (.bool a0_3) := (blk_cell BK237.out 3).trans rfl
   have hcz5_4 : w3.cell? ⟨gb237, 4, none⟩ = some (.int .u64 a0_4) := (blk_cell BK237.out 4).trans rfl
   have hfz5_0 := blk_frozen BK237.out 0
   have hfz5_1 := blk_frozen BK237.out 1
   have hfz5_2 := blk_frozen BK237.out 2
   have hfz5_3 := blk_frozen BK237.out 3
   have hfz5_4 := blk_frozen BK237.out 4
   go_wp2
   go_meet
   case rel => exact ⟨_, (false), (by first | rfl | (simp; done) | (simp [*]; done)), H', ⟨by first | omega | exact Nat.le_refl _⟩, ⟨by (with_reducible repeat (first | refine blk_drewN ?_ _ | refine blk_drew ?_ | refine blk_alloc ?_ _)); exact BK237.out⟩, ⟨by repeat (first | (with_reducible first | exact HB.out | apply below_alloc | apply pw_below_drewN | apply below_drew1 | refine below_set ?_ GE237.out) | exact HB.out)⟩⟩
  ·
   rw [if_neg c4] at H
   have c4b0 : (a0_0 == 0) = false := beq_eq_false_iff_ne.mpr c4
   have c4b1 : (a0_0 != 0) = true := bne_iff_ne.mpr c4
   (first | rw [c4b0] | (simp only [i64_w, i32_w]; rw [c4b0]) | skip)
   by_cases c6 : a0_0 = 7
   ·
    rw [if_pos c6] at H
    have c6b0 : (a0_0 == 7) = true := beq_iff_eq.mpr c6
    have c6b1 : (a0_0 != 7) = false := bne_eq_false_iff_eq.mpr c6
    clear c6
    have H' := Aside0.mk H
    clear H
    have hcz7_0 : w3.cell? ⟨gb237, 0, none⟩ = some (.int .u8 a0_0) := (blk_cell BK237.out 0).trans rfl
    have hcz7_1 : w3.cell? ⟨gb237, 1, none⟩ = some (.bool a0_1) := (blk_cell BK237.out 1).trans rfl
    have hcz7_2 : w3.cell? ⟨gb237, 2, none⟩ = some (.bool a0_2) := (blk_cell BK237.out 2).trans rfl
    have hcz7_3 : w3.cell? ⟨gb237, 3, none⟩ = some (.bool a0_3) := (blk_cell BK237.out 3).trans rfl
    have hcz7_4 : w3.cell? ⟨gb237, 4, none⟩ = some (.int .u64 a0_4) := (blk_cell BK237.out 4).trans rfl
    have hfz7_0 := blk_frozen BK237.out 0
    have hfz7_1 := blk_frozen BK237.out 1
    have hfz7_2 := blk_frozen BK237.out 2
    have hfz7_3 := blk_frozen BK237.out 3
    have hfz7_4 := blk_frozen BK237.out 4
    go_wp2
    go_meet
    case rel => exact ⟨_, (false), (by first | rfl | (simp; done) | (simp [*]; done)), H', ⟨by first | omega | exact Nat.le_refl _⟩, ⟨by (with_reducible repeat (first | refine blk_drewN ?_ _ | refine blk_drew ?_ | refine blk_alloc ?_ _)); exact BK237.out⟩, ⟨by repeat (first | (with_reducible first | exact HB.out | apply below_alloc | apply pw_below_drewN | apply below_drew1 | refine below_set ?_ GE237.out) | exact HB.out)⟩⟩
   ·
    rw [if_neg c6] at H
    have c6b0 : (a0_0 == 7) = false := beq_eq_false_iff_ne.mpr c6
    have c6b1 : (a0_0 != 7) = true := bne_iff_ne.mpr c6
    by_cases c8 : a0_0 = 11
    ·
     rw [if_pos c8] at H
     have c8b0 : (a0_0 == 11) = true := beq_iff_eq.mpr c8
     have c8b1 : (a0_0 != 11) = false := bne_eq_false_iff_eq.mpr c8
     clear c8
     have H' := Aside0.mk H
     clear H
     have hcz9_0 : w3.cell? ⟨gb237, 0, none⟩ = some (.int .u8 a0_0) := (blk_cell BK237.out 0).trans rfl
     have hcz9_1 : w3.cell? ⟨gb237, 1, none⟩ = some (.bool a0_1) := (blk_cell BK237.out 1).trans rfl
     have hcz9_2 : w3.cell? ⟨gb237, 2, none⟩ = some (.bool a0_2) := (blk_cell BK237.out 2).trans rfl
     have hcz9_3 : w3.cell? ⟨gb237, 3, none⟩ = some (.bool a0_3) := (blk_cell BK237.out 3).trans rfl
     have hcz9_4 : w3.cell? ⟨gb237, 4, none⟩ = some (.int .u64 a0_4) := (blk_cell BK237.out 4).trans rfl
     have hfz9_0 := blk_frozen BK237.out 0
     have hfz9_1 := blk_frozen BK237.out 1
     have hfz9_2 := blk_frozen BK237.out 2
     have hfz9_3 := blk_frozen BK237.out 3
     have hfz9_4 := blk_frozen BK237.out 4
     go_wp2
     go_meet
     case rel => exact ⟨_, (false), (by first | rfl | (simp; done) | (simp [*]; done)), H', ⟨by first | omega | exact Nat.le_refl _⟩, ⟨by (with_reducible repeat (first | refine blk_drewN ?_ _ | refine blk_drew ?_ | refine blk_alloc ?_ _)); exact BK237.out⟩, ⟨by repeat (first | (with_reducible first | exact HB.out | apply below_alloc | apply pw_below_drewN | apply below_drew1 | refine below_set ?_ GE237.out) | exact HB.out)⟩⟩
    ·
     rw [if_neg c8] at H
     have c8b0 : (a0_0 == 11) = false := beq_eq_false_iff_ne.mpr c8
     have c8b1 : (a0_0 != 11) = true := bne_iff_ne.mpr c8
     have H' := Aside0.mk H
     clear H
     have hcz10_0 : w3.cell? ⟨gb237, 0, none⟩ = some (.int .u8 a0_0) := (blk_cell BK237.out 0).trans rfl
     have hcz10_1 : w3.cell? ⟨gb237, 1, none⟩ = some (.bool a0_1) := (blk_cell BK237.out 1).trans rfl
     have hcz10_2 : w3.cell? ⟨gb237, 2, none⟩ = some (.bool a0_2) := (blk_cell BK237.out 2).trans rfl
     have hcz10_3 : w3.cell? ⟨gb237, 3, none⟩ = some (.bool a0_3) := (blk_cell BK237.out 3).trans rfl
     have hcz10_4 : w3.cell? ⟨gb237, 4, none⟩ = some (.int .u64 a0_4) := (blk_cell BK237.out 4).trans rfl
     have hfz10_0 := blk_frozen BK237.out 0
     have hfz10_1 := blk_frozen BK237.out 1
     have hfz10_2 := blk_frozen BK237.out 2
     have hfz10_3 := blk_frozen BK237.out 3
     have hfz10_4 := blk_frozen BK237.out 4
     go_wp2
     go_meet
     case rel => exact ⟨_, ((a0_0 != 13)), (by first | rfl | (simp; done) | (simp [*]; done)), H', ⟨by first | omega | exact Nat.le_refl _⟩, ⟨by (with_reducible repeat (first | refine blk_drewN ?_ _ | refine blk_drew ?_ | refine blk_alloc ?_ _)); exact BK237.out⟩, ⟨by repeat (first | (with_reducible first | exact HB.out | apply below_alloc | apply pw_below_drewN | apply below_drew1 | refine below_set ?_ GE237.out) | exact HB.out)⟩⟩
 case rest =>
  clear HC2
  try clear p2
  try clear c4
  try clear c4b0
  try clear c4b1
  try clear c5
  try clear c6
  try clear c6b0
  try clear c6b1
  try clear c8
  try clear c8b0
  try clear c8b1
  try clear hcz10_0
  try clear hcz10_1
  try clear hcz10_2
  try clear hcz10_3
  try clear hcz10_4
  try clear hcz5_0
  try clear hcz5_1
  try clear hcz5_2
  try clear hcz5_3
  try clear hcz5_4
  try clear hcz7_0
  try clear hcz7_1
  try clear hcz7_2
  try clear hcz7_3
  try clear hcz7_4
  try clear hcz9_0
  try clear hcz9_1
  try clear hcz9_2
  try clear hcz9_3
  try clear hcz9_4
  try clear hfz10_0
  try clear hfz10_1
  try clear hfz10_2
  try clear hfz10_3
  try clear hfz10_4
  try clear hfz5_0
  try clear hfz5_1
  try clear hfz5_2
  try clear hfz5_3
  try clear hfz5_4
  try clear hfz7_0
  try clear hfz7_1
  try clear hfz7_2
  try clear hfz7_3
  try clear hfz7_4
  try clear hfz9_0
  try clear hfz9_1
  try clear hfz9_2
  try clear hfz9_3
  try clear hfz9_4
  obtain ⟨kq, x20_1, rfl, HA, HJ1, BK237, HB⟩ := hcut
  cases kq with
  | zero => exact absurd HA.out (by simp [carouselref05_wrong.j0])
  | succ kj1 =>
   have H := HA.out
   clear HA
   simp only [carouselref05_wrong.j0] at H
   by_cases c11 : x20_1 = true
   ·
    subst c11
    have H1 : (some 8) = some r := by rw [if_pos rfl] at H; exact H
    clear H
    have H := H1
    clear H1
    obtain rfl := Option.some.inj H
    go_wp2
    go_ret
    exact ⟨by first | rfl | (simp [errW_none, errW_some] <;> rfl) | (simp [*, errW_none, errW_some] <;> rfl), by repeat (first | (with_reducible first | exact HB.out | apply below_alloc | apply pw_below_drewN | apply below_drew1 | refine below_set ?_ GE237.out) | exact HB.out)⟩
   ·
    replace c11 := Bool.eq_false_iff.mpr c11
    subst c11
    have H1 : (if a0_1 = true then (carouselref05_wrong.j1 kj1 (a0_0 != 0) a0_0 a0_1 a0_2 a0_3 a0_4) else (carouselref05_wrong.j1 kj1 false a0_0 a0_1 a0_2 a0_3 a0_4)) = some r := by rw [if_neg (show ¬ (false = true) by decide)] at H; exact H
    clear H
    have H := H1
    clear H1
    have HC12 := Aside0.mk H
    clear H
    go_upto_region 3 with (fail)
    go_cut [27] (fun v27 wc => ∃ (kq : Nat) (x27_11 : Bool), v27 = .bool x27_11 ∧ Aside0 (carouselref05_wrong.j1 kq x27_11 a0_0 a0_1 a0_2 a0_3 a0_4 = some r) ∧ Aside0 (kq ≤ kj1) ∧ Aside0 (wc.heap[gb237]? = some (.cells #[.int .u8 a0_0, .bool a0_1, .bool a0_2, .bool a0_3, .int .u64 a0_4] 34 (0, 0))) ∧ Aside0 (Below w.heap.size w wc))
    case first =>
     have H := HC12.out
     clear HC12
     by_cases c13 : a0_1 = true
     ·
      subst c13
      have H1 : (carouselref05_wrong.j1 kj1 (a0_0 != 0) a0_0 true a0_2 a0_3 a0_4) = some r := by rw [if_pos rfl] at H; exact H
      clear H
      have H := H1
      clear H1
      have H' := Aside0.mk H
      clear H
      have hcz14_0 : wc.cell? ⟨gb237, 0, none⟩ = some (.int .u8 a0_0) := (blk_cell BK237.out 0).trans rfl
      have hcz14_1 : wc.cell? ⟨gb237, 1, none⟩ = some (.bool true) := (blk_cell BK237.out 1).trans rfl
      have hcz14_2 : wc.cell? ⟨gb237, 2, none⟩ = some (.bool a0_2) := (blk_cell BK237.out 2).trans rfl
      have hcz14_3 : wc.cell? ⟨gb237, 3, none⟩ = some (.bool a0_3) := (blk_cell BK237.out 3).trans rfl
      have hcz14_4 : wc.cell? ⟨gb237, 4, none⟩ = some (.int .u64 a0_4) := (blk_cell BK237.out 4).trans rfl
      have hfz14_0 := blk_frozen BK237.out 0
      have hfz14_1 := blk_frozen BK237.out 1
      have hfz14_2 := blk_frozen BK237.out 2
      have hfz14_3 := blk_frozen BK237.out 3
      have hfz14_4 := blk_frozen BK237.out 4
      go_wp2
      go_meet
      case rel => exact ⟨_, ((a0_0 != 0)), (by first | rfl | (simp; done) | (simp [*]; done)), H', ⟨by have := HJ1.out; first | omega | exact Nat.le_refl _⟩, ⟨by (with_reducible repeat (first | refine blk_drewN ?_ _ | refine blk_drew ?_ | refine blk_alloc ?_ _)); exact BK237.out⟩, ⟨by repeat (first | (with_reducible first | exact HB.out | apply below_alloc | apply pw_below_drewN | apply below_drew1 | refine below_set ?_ GE237.out) | exact HB.out)⟩⟩
     ·
      replace c13 := Bool.eq_false_iff.mpr c13
      subst c13
      have H1 : (carouselref05_wrong.j1 kj1 false a0_0 false a0_2 a0_3 a0_4) = some r := by rw [if_neg (show ¬ (false = true) by decide)] at H; exact H
      clear H
      have H := H1
      clear H1
      have H' := Aside0.mk H
      clear H
      have hcz15_0 : wc.cell? ⟨gb237, 0, none⟩ = some (.int .u8 a0_0) := (blk_cell BK237.out 0).trans rfl
      have hcz15_1 : wc.cell? ⟨gb237, 1, none⟩ = some (.bool false) := (blk_cell BK237.out 1).trans rfl
      have hcz15_2 : wc.cell? ⟨gb237, 2, none⟩ = some (.bool a0_2) := (blk_cell BK237.out 2).trans rfl
      have hcz15_3 : wc.cell? ⟨gb237, 3, none⟩ = some (.bool a0_3) := (blk_cell BK237.out 3).trans rfl
      have hcz15_4 : wc.cell? ⟨gb237, 4, none⟩ = some (.int .u64 a0_4) := (blk_cell BK237.out 4).trans rfl
      have hfz15_0 := blk_frozen BK237.out 0
      have hfz15_1 := blk_frozen BK237.out 1
      have hfz15_2 := blk_frozen BK237.out 2
      have hfz15_3 := blk_frozen BK237.out 3
      have hfz15_4 := blk_frozen BK237.out 4
      go_wp2
      go_meet
      case rel => exact ⟨_, (false), (by first | rfl | (simp; done) | (simp [*]; done)), H', ⟨by have := HJ1.out; first | omega | exact Nat.le_refl _⟩, ⟨by (with_reducible repeat (first | refine blk_drewN ?_ _ | refine blk_drew ?_ | refine blk_alloc ?_ _)); exact BK237.out⟩, ⟨by repeat (first | (with_reducible first | exact HB.out | apply below_alloc | apply pw_below_drewN | apply below_drew1 | refine below_set ?_ GE237.out) | exact HB.out)⟩⟩
    case rest =>
     clear HC12
     try clear c1
     try clear p2
     try clear c4
     try clear c4b0
     try clear c4b1
     try clear c5
     try clear c6
     try clear c6b0
     try clear c6b1
     try clear c8
     try clear c8b0
     try clear c8b1
     try clear c11
     try clear c13
     try clear hcz10_0
     try clear hcz10_1
     try clear hcz10_2
     try clear hcz10_3
     try clear hcz10_4
     try clear hcz14_0
     try clear hcz14_1
     try clear hcz14_2
     try clear hcz14_3
     try clear hcz14_4
     try clear hcz15_0
     try clear hcz15_1
     try clear hcz15_2
     try clear hcz15_3
     try clear hcz15_4
     try clear hcz5_0
     try clear hcz5_1
     try clear hcz5_2
     try clear hcz5_3
     try clear hcz5_4
     try clear hcz7_0
     try clear hcz7_1
     try clear hcz7_2
     try clear hcz7_3
     try clear hcz7_4
     try clear hcz9_0
     try clear hcz9_1
     try clear hcz9_2
     try clear hcz9_3
     try clear hcz9_4
     try clear hfz10_0
     try clear hfz10_1
     try clear hfz10_2
     try clear hfz10_3
     try clear hfz10_4
     try clear hfz14_0
     try clear hfz14_1
     try clear hfz14_2
     try clear hfz14_3
     try clear hfz14_4
     try clear hfz15_0
     try clear hfz15_1
     try clear hfz15_2
     try clear hfz15_3
     try clear hfz15_4
     try clear hfz5_0
     try clear hfz5_1
     try clear hfz5_2
     try clear hfz5_3
     try clear hfz5_4
     try clear hfz7_0
     try clear hfz7_1
     try clear hfz7_2
     try clear hfz7_3
     try clear hfz7_4
     try clear hfz9_0
     try clear hfz9_1
     try clear hfz9_2
     try clear hfz9_3
     try clear hfz9_4
     try clear p2
     obtain ⟨kq, x27_11, rfl, HA, HJ11, BK237, HB⟩ := hcut
     cases kq with
     | zero => exact absurd HA.out (by simp [carouselref05_wrong.j1])
     | succ kj11 =>
      have H := HA.out
      clear HA
      simp only [carouselref05_wrong.j1] at H
      by_cases c16 : x27_11 = true
      ·
       subst c16
       have H1 : (some 3) = some r := by rw [if_pos rfl] at H; exact H
       clear H
       have H := H1
       clear H1
       obtain rfl := Option.some.inj H
       go_wp2
       go_ret
       exact ⟨by first | rfl | (simp [errW_none, errW_some] <;> rfl) | (simp [*, errW_none, errW_some] <;> rfl), by repeat (first | (with_reducible first | exact HB.out | apply below_alloc | apply pw_below_drewN | apply below_drew1 | refine below_set ?_ GE237.out) | exact HB.out)⟩
      ·
       replace c16 := Bool.eq_false_iff.mpr c16
       subst c16
       have H1 : ((carouselref02_May.f a0_4).bind fun t238 => (if t238 = true then ((carouselref02_Group.f a0_4).bind fun t239 => (if t239 = true then (some 4) else (some 0))) else (some 4))) = some r := by rw [if_neg (show ¬ (false = true) by decide)] at H; exact H
       clear H
       have H := H1
       clear H1
       replace H := Option.bind_eq_some_iff.mp H
       obtain ⟨t238, A170, H⟩ := H
       try dsimp only at H
       have A17 := Aside0.mk A170
       clear A170
       by_cases c18 : t238 = true
       ·
        subst c18
        have H1 : ((carouselref02_Group.f a0_4).bind fun t239 => (if t239 = true then (some 4) else (some 0))) = some r := by rw [if_pos rfl] at H; exact H
        clear H
        have H := H1
        clear H1
        replace H := Option.bind_eq_some_iff.mp H
        obtain ⟨t239, A190, H⟩ := H
        try dsimp only at H
        have A19 := Aside0.mk A190
        clear A190
        by_cases c20 : t239 = true
        ·
         subst c20
         have H1 : (some 4) = some r := by rw [if_pos rfl] at H; exact H
         clear H
         have H := H1
         clear H1
         obtain rfl := Option.some.inj H
         have hcz21_0 : wc.cell? ⟨gb237, 0, none⟩ = some (.int .u8 a0_0) := (blk_cell BK237.out 0).trans rfl
         have hcz21_1 : wc.cell? ⟨gb237, 1, none⟩ = some (.bool a0_1) := (blk_cell BK237.out 1).trans rfl
         have hcz21_2 : wc.cell? ⟨gb237, 2, none⟩ = some (.bool a0_2) := (blk_cell BK237.out 2).trans rfl
         have hcz21_3 : wc.cell? ⟨gb237, 3, none⟩ = some (.bool a0_3) := (blk_cell BK237.out 3).trans rfl
         have hcz21_4 : wc.cell? ⟨gb237, 4, none⟩ = some (.int .u64 a0_4) := (blk_cell BK237.out 4).trans rfl
         have hfz21_0 := blk_frozen BK237.out 0
         have hfz21_1 := blk_frozen BK237.out 1
         have hfz21_2 := blk_frozen BK237.out 2
         have hfz21_3 := blk_frozen BK237.out 3
         have hfz21_4 := blk_frozen BK237.out 4
         go_wp2_with (first | ((with_reducible refine gate_callee (f := 70) rfl ?_); refine goesL_ (some 30) rfl rfl Try.func70 (by kernel_rfl) rfl #[.int .u64 a0_4] rfl (by (try simp only [List.map_toArray, List.map_cons, List.map_nil]); first | done | rfl | (simp only [List.length_drop, List.length_take]; rfl)) ?_; (with_reducible refine (carouselref02_May.calls a0_4 true _ A17.out).mono ?_); rintro e w' ⟨rfl, ⟨nd, rfl⟩⟩; refine ⟨_, rfl, ?_⟩) | (go_at_call 71; (with_reducible refine (carouselref02_Group.calls a0_4 true _ A19.out).mono ?_); rintro e w' ⟨rfl, ⟨nd, rfl⟩⟩))
         go_ret
         exact ⟨by first | rfl | (simp [errW_none, errW_some] <;> rfl) | (simp [*, errW_none, errW_some] <;> rfl), by repeat (first | (with_reducible first | exact HB.out | apply below_alloc | apply pw_below_drewN | apply below_drew1 | refine below_set ?_ GE237.out) | exact HB.out)⟩
        ·
         replace c20 := Bool.eq_false_iff.mpr c20
         subst c20
         have H1 : (some 0) = some r := by rw [if_neg (show ¬ (false = true) by decide)] at H; exact H
         clear H
         have H := H1
         clear H1
         obtain rfl := Option.some.inj H
         have hcz22_0 : wc.cell? ⟨gb237, 0, none⟩ = some (.int .u8 a0_0) := (blk_cell BK237.out 0).trans rfl
         have hcz22_1 : wc.cell? ⟨gb237, 1, none⟩ = some (.bool a0_1) := (blk_cell BK237.out 1).trans rfl
         have hcz22_2 : wc.cell? ⟨gb237, 2, none⟩ = some (.bool a0_2) := (blk_cell BK237.out 2).trans rfl
         have hcz22_3 : wc.cell? ⟨gb237, 3, none⟩ = some (.bool a0_3) := (blk_cell BK237.out 3).trans rfl
         have hcz22_4 : wc.cell? ⟨gb237, 4, none⟩ = some (.int .u64 a0_4) := (blk_cell BK237.out 4).trans rfl
         have hfz22_0 := blk_frozen BK237.out 0
         have hfz22_1 := blk_frozen BK237.out 1
         have hfz22_2 := blk_frozen BK237.out 2
         have hfz22_3 := blk_frozen BK237.out 3
         have hfz22_4 := blk_frozen BK237.out 4
         go_wp2_with (first | ((with_reducible refine gate_callee (f := 70) rfl ?_); refine goesL_ (some 30) rfl rfl Try.func70 (by kernel_rfl) rfl #[.int .u64 a0_4] rfl (by (try simp only [List.map_toArray, List.map_cons, List.map_nil]); first | done | rfl | (simp only [List.length_drop, List.length_take]; rfl)) ?_; (with_reducible refine (carouselref02_May.calls a0_4 true _ A17.out).mono ?_); rintro e w' ⟨rfl, ⟨nd, rfl⟩⟩; refine ⟨_, rfl, ?_⟩) | (go_at_call 71; (with_reducible refine (carouselref02_Group.calls a0_4 false _ A19.out).mono ?_); rintro e w' ⟨rfl, ⟨nd, rfl⟩⟩))
         go_ret
         exact ⟨by first | rfl | (simp [errW_none, errW_some] <;> rfl) | (simp [*, errW_none, errW_some] <;> rfl), by repeat (first | (with_reducible first | exact HB.out | apply below_alloc | apply pw_below_drewN | apply below_drew1 | refine below_set ?_ GE237.out) | exact HB.out)⟩
       ·
        replace c18 := Bool.eq_false_iff.mpr c18
        subst c18
        have H1 : (some 4) = some r := by rw [if_neg (show ¬ (false = true) by decide)] at H; exact H
        clear H
        have H := H1
        clear H1
        obtain rfl := Option.some.inj H
        have hcz23_0 : wc.cell? ⟨gb237, 0, none⟩ = some (.int .u8 a0_0) := (blk_cell BK237.out 0).trans rfl
        have hcz23_1 : wc.cell? ⟨gb237, 1, none⟩ = some (.bool a0_1) := (blk_cell BK237.out 1).trans rfl
        have hcz23_2 : wc.cell? ⟨gb237, 2, none⟩ = some (.bool a0_2) := (blk_cell BK237.out 2).trans rfl
        have hcz23_3 : wc.cell? ⟨gb237, 3, none⟩ = some (.bool a0_3) := (blk_cell BK237.out 3).trans rfl
        have hcz23_4 : wc.cell? ⟨gb237, 4, none⟩ = some (.int .u64 a0_4) := (blk_cell BK237.out 4).trans rfl
        have hfz23_0 := blk_frozen BK237.out 0
        have hfz23_1 := blk_frozen BK237.out 1
        have hfz23_2 := blk_frozen BK237.out 2
        have hfz23_3 := blk_frozen BK237.out 3
        have hfz23_4 := blk_frozen BK237.out 4
        go_wp2_with (first | ((with_reducible refine gate_callee (f := 70) rfl ?_); refine goesL_ (some 30) rfl rfl Try.func70 (by kernel_rfl) rfl #[.int .u64 a0_4] rfl (by (try simp only [List.map_toArray, List.map_cons, List.map_nil]); first | done | rfl | (simp only [List.length_drop, List.length_take]; rfl)) ?_; (with_reducible refine (carouselref02_May.calls a0_4 false _ A17.out).mono ?_); rintro e w' ⟨rfl, ⟨nd, rfl⟩⟩; refine ⟨_, rfl, ?_⟩))
        go_ret
        exact ⟨by first | rfl | (simp [errW_none, errW_some] <;> rfl) | (simp [*, errW_none, errW_some] <;> rfl), by repeat (first | (with_reducible first | exact HB.out | apply below_alloc | apply pw_below_drewN | apply below_drew1 | refine below_set ?_ GE237.out) | exact HB.out)⟩

end Go.Proofs.Ytmdaaphjndjakaf.PRapsOpens
