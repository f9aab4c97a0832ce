-- Written by a program of this work, after the translation.
import Derived.Test.YtmdaaphjndjakadPAllx0
import Derived.Test.YtmdaaphjndjakadPAllx16
import Derived.Test.YtmdaaphjndjakadPAllx17
import Derived.Test.YtmdaaphjndjakadPAllx18
namespace Go.Proofs.Ytmdaaphjndjakad.PAll
open Go.RowKit Go.Proofs.YtmdaaphjndjakadW.PrintWords Go.Proofs.YtmdaaphjndjakadW.PrintLast Go.Proofs.YtmdaaphjndjakadW.PrintMore
attribute [local go_sem] max2_int min2_int max_two min_two max_three min_three max_four min_four   -- for this text's walks alone
set_option linter.unusedVariables false
set_option linter.unusedSimpArgs false

/-! ### carouselref05_Close: function 15 -/
mutual
def carouselref05_Close.j0 : Nat → Int → Int → Int → Bool → Bool → Bool → Int → Option (ByteArray × Int)
  | 0, _, _, _, _, _, _, _ => none
  | k + 1, x1, x7, x249000, x249001, x249002, x249003, x249004 => if x249002 = true then (carouselref05_Close.j1 k x1 (wrap64 (x7 + 64)) x249000 x249001 x249002 x249003 x249004) else (carouselref05_Close.j1 k x1 x7 x249000 x249001 x249002 x249003 x249004)
def carouselref05_Close.j1 : Nat → Int → Int → Int → Bool → Bool → Bool → Int → Option (ByteArray × Int)
  | 0, _, _, _, _, _, _, _ => none
  | k + 1, x1, x7, x249000, x249001, x249002, x249003, x249004 => if x249003 = true then (carouselref05_Close.j2 k x1 (wrap64 (x7 + 32)) x249000 x249001 x249002 x249003 x249004) else (carouselref05_Close.j2 k x1 x7 x249000 x249001 x249002 x249003 x249004)
def carouselref05_Close.j2 : Nat → Int → Int → Int → Bool → Bool → Bool → Int → Option (ByteArray × Int)
  | 0, _, _, _, _, _, _, _ => none
  | k + 1, x1, x7, x249000, x249001, x249002, x249003, x249004 => (some (([(x249000 * 16) % 256, (x7) % 256] : List Int) : List Int)).bind fun y250 => ((carouselref02_Bytes.f k x249004).bind fun t253 => (if (strOfNums y250).size + t253.size ≤ 9223372036854775807 then (if 24 ≤ 281474976710656 then ((some (List.replicate 24 0 : List Int)).bind fun y254 => (if (strOfNums y250).size + t253.size + (strOfNums y254).size ≤ 9223372036854775807 then ((carouselref04_Close.f k x1 1 40 0 32 (((strOfNums y250) ++ t253) ++ (strOfNums y254))).bind fun bt257 => (some (bt257.1, bt257.2))) else (none))) else (none)) else (none)))
end
def carouselref05_Close.f (k : Nat) (a0_0 : Int) (a0_1 : Bool) (a0_2 : Bool) (a0_3 : Bool) (a0_4 : Int) (a1 : Int) : Option (ByteArray × Int) := if a1 > 7 then (some ((⟨#[]⟩ : ByteArray), 4)) else ((carouselref05_wrong.f k a0_0 a0_1 a0_2 a0_3 a0_4).bind fun t249 => (if t249 = 0 then (if a0_1 = true then (carouselref05_Close.j0 k a1 (0 + 128) a0_0 a0_1 a0_2 a0_3 a0_4) else (carouselref05_Close.j0 k a1 0 a0_0 a0_1 a0_2 a0_3 a0_4)) else (some ((⟨#[]⟩ : ByteArray), t249))))
theorem carouselref05_Close.mono_l : ∀ k, (∀ y0 y1 y2 y3 y4 y5 y6, LeO (carouselref05_Close.j0 k y0 y1 y2 y3 y4 y5 y6) (carouselref05_Close.j0 (k + 1) y0 y1 y2 y3 y4 y5 y6)) ∧ (∀ y0 y1 y2 y3 y4 y5 y6, LeO (carouselref05_Close.j1 k y0 y1 y2 y3 y4 y5 y6) (carouselref05_Close.j1 (k + 1) y0 y1 y2 y3 y4 y5 y6)) ∧ (∀ y0 y1 y2 y3 y4 y5 y6, LeO (carouselref05_Close.j2 k y0 y1 y2 y3 y4 y5 y6) (carouselref05_Close.j2 (k + 1) y0 y1 y2 y3 y4 y5 y6))
  | 0 => ⟨fun _ _ _ _ _ _ _ r h => by simp [carouselref05_Close.j0] at h, fun _ _ _ _ _ _ _ r h => by simp [carouselref05_Close.j1] at h, fun _ _ _ _ _ _ _ r h => by simp [carouselref05_Close.j2] at h⟩
  | k + 1 => by
    obtain ⟨ih0, ih1, ih2⟩ := carouselref05_Close.mono_l k
    refine ⟨?_, ?_, ?_⟩
    · intro y0 y1 y2 y3 y4 y5 y6
      unfold carouselref05_Close.j0
      repeat' first
      | (with_reducible exact ih0 _ _ _ _ _ _ _)
      | (with_reducible exact ih1 _ _ _ _ _ _ _)
      | (with_reducible exact ih2 _ _ _ _ _ _ _)
      | (with_reducible exact carouselref02_Bytes.mono _ _)
      | (with_reducible exact carouselref04_Close.mono _ _ _ _ _ _ _)
      | (with_reducible exact carouselref05_wrong.mono _ _ _ _ _ _)
      | (with_reducible exact LeO.refl _)
      | (with_reducible exact LeO.none _)
      | (with_reducible refine LeO.ite ?_ ?_)
      | (with_reducible refine LeO.bind ?_ (fun _ => ?_))
      | exact ih0 _ _ _ _ _ _ _
      | exact ih1 _ _ _ _ _ _ _
      | exact ih2 _ _ _ _ _ _ _
      | exact carouselref02_Bytes.mono _ _
      | exact carouselref04_Close.mono _ _ _ _ _ _ _
      | exact carouselref05_wrong.mono _ _ _ _ _ _
      | exact LeO.none _
      | refine LeO.ite ?_ ?_
      | refine LeO.bind ?_ (fun _ => ?_)
    · intro y0 y1 y2 y3 y4 y5 y6
      unfold carouselref05_Close.j1
      repeat' first
      | (with_reducible exact ih0 _ _ _ _ _ _ _)
      | (with_reducible exact ih1 _ _ _ _ _ _ _)
      | (with_reducible exact ih2 _ _ _ _ _ _ _)
      | (with_reducible exact carouselref02_Bytes.mono _ _)
      | (with_reducible exact carouselref04_Close.mono _ _ _ _ _ _ _)
      | (with_reducible exact carouselref05_wrong.mono _ _ _ _ _ _)
      | (with_reducible exact LeO.refl _)
      | (with_reducible exact LeO.none _)
      | (with_reducible refine LeO.ite ?_ ?_)
      | (with_reducible refine LeO.bind ?_ (fun _ => ?_))
      | exact ih0 _ _ _ _ _ _ _
      | exact ih1 _ _ _ _ _ _ _
      | exact ih2 _ _ _ _ _ _ _
      | exact carouselref02_Bytes.mono _ _
      | exact carouselref04_Close.mono _ _ _ _ _ _ _
      | exact carouselref05_wrong.mono _ _ _ _ _ _
      | exact LeO.none _
      | refine LeO.ite ?_ ?_
      | refine LeO.bind ?_ (fun _ => ?_)
    · intro y0 y1 y2 y3 y4 y5 y6
      unfold carouselref05_Close.j2
      repeat' first
      | (with_reducible exact ih0 _ _ _ _ _ _ _)
      | (with_reducible exact ih1 _ _ _ _ _ _ _)
      | (with_reducible exact ih2 _ _ _ _ _ _ _)
      | (with_reducible exact carouselref02_Bytes.mono _ _)
      | (with_reducible exact carouselref04_Close.mono _ _ _ _ _ _ _)
      | (with_reducible exact carouselref05_wrong.mono _ _ _ _ _ _)
      | (with_reducible exact LeO.refl _)
      | (with_reducible exact LeO.none _)
      | (with_reducible refine LeO.ite ?_ ?_)
      | (with_reducible refine LeO.bind ?_ (fun _ => ?_))
      | exact ih0 _ _ _ _ _ _ _
      | exact ih1 _ _ _ _ _ _ _
      | exact ih2 _ _ _ _ _ _ _
      | exact carouselref02_Bytes.mono _ _
      | exact carouselref04_Close.mono _ _ _ _ _ _ _
      | exact carouselref05_wrong.mono _ _ _ _ _ _
      | exact LeO.none _
      | refine LeO.ite ?_ ?_
      | refine LeO.bind ?_ (fun _ => ?_)
theorem carouselref05_Close.mono : ∀ a0 a1 a2 a3 a4 a5 k, LeO (carouselref05_Close.f k a0 a1 a2 a3 a4 a5) (carouselref05_Close.f (k + 1) a0 a1 a2 a3 a4 a5) := by
  intro a0 a1 a2 a3 a4 a5 k
  obtain ⟨ih0, ih1, ih2⟩ := carouselref05_Close.mono_l k
  unfold carouselref05_Close.f
  repeat' first
      | (with_reducible exact ih0 _ _ _ _ _ _ _)
      | (with_reducible exact ih1 _ _ _ _ _ _ _)
      | (with_reducible exact ih2 _ _ _ _ _ _ _)
      | (with_reducible exact carouselref02_Bytes.mono _ _)
      | (with_reducible exact carouselref04_Close.mono _ _ _ _ _ _ _)
      | (with_reducible exact carouselref05_wrong.mono _ _ _ _ _ _)
      | (with_reducible exact LeO.refl _)
      | (with_reducible exact LeO.none _)
      | (with_reducible refine LeO.ite ?_ ?_)
      | (with_reducible refine LeO.bind ?_ (fun _ => ?_))
      | exact ih0 _ _ _ _ _ _ _
      | exact ih1 _ _ _ _ _ _ _
      | exact ih2 _ _ _ _ _ _ _
      | exact carouselref02_Bytes.mono _ _
      | exact carouselref04_Close.mono _ _ _ _ _ _ _
      | exact carouselref05_wrong.mono _ _ _ _ _ _
      | exact LeO.none _
      | refine LeO.ite ?_ ?_
      | refine LeO.bind ?_ (fun _ => ?_)
def carouselref05_Close.T13 : Bool × List (List Nat × List Nat) := (true, [([], []), ([0], [0]), ([], []), ([2], [2]), ([3], [3]), ([], []), ([5], [5]), ([4, 6], [4, 6]), ([7], [7]), ([], []), ([9], [9]), ([10], [10]), ([8, 11], [8, 11]), ([], []), ([13], [13]), ([12, 14], [12, 14]), ([1, 15, 11], [1, 15]), ([16], [16]), ([16], [16]), ([17, 16, 0, 1, 2, 3, 4, 5, 6, 7, 8, 9, 10, 11, 12, 13, 14, 15, 16, 17, 18], [17]), ([18, 19, 0, 1, 2, 3, 4, 5, 6, 7, 8, 9, 10, 11, 12, 13, 14, 15, 16, 17, 18, 19], [18])])
def carouselref05_Close.B13 : List Nat := [0, 1, 0, 4, 12, 0, 32, 124, 252, 0, 512, 1536, 4092, 0, 8192, 32764, 65535, 131071, 131071, 524287, 1048575]
theorem carouselref05_Close.tab13 : rtab .any (opsOf Try.f15 13) = carouselref05_Close.T13 := by kernel_rfl
theorem carouselref05_Close.bits13 : waitsOk carouselref05_Close.T13.2 carouselref05_Close.B13 = true := by kernel_rfl
set_option maxHeartbeats 8000000 in
set_option maxRecDepth 100000 in
theorem carouselref05_Close.calls (k : Nat) (a0_0 : Int) (a0_1 : Bool) (a0_2 : Bool) (a0_3 : Bool) (a0_4 : Int) (a1 : Int) (r1 : ByteArray) (r2 : Int) (w : World) (h : carouselref05_Close.f k a0_0 a0_1 a0_2 a0_3 a0_4 a1 = some (r1, r2)) :
    Calls Try.prog 15 #[.agg #[.int .u8 a0_0, .bool a0_1, .bool a0_2, .bool a0_3, .int .u64 a0_4], .int .u8 a1] w fun e w' => e = .returned (.tuple #[.string r1, .int .i64 r2]) ∧ Below w.heap.size w w' := by
  have hu40 := Try.underlying40
  have hu89 := Try.underlying89
  have HB := Aside0.mk (Below.refl w.heap.size w)
  have H : (if a1 > 7 then (some ((⟨#[]⟩ : ByteArray), 4)) else ((carouselref05_wrong.f k a0_0 a0_1 a0_2 a0_3 a0_4).bind fun t249 => (if t249 = 0 then (if a0_1 = true then (carouselref05_Close.j0 k a1 (0 + 128) a0_0 a0_1 a0_2 a0_3 a0_4) else (carouselref05_Close.j0 k a1 0 a0_0 a0_1 a0_2 a0_3 a0_4)) else (some ((⟨#[]⟩ : ByteArray), t249))))) = some (r1, r2) := h
  clear h
  by_cases c3 : a1 > 7
  · rw [if_pos c3] at H
    have c3b0 : decide (7 < a1) = true := decide_eq_true c3
    clear c3
    simp only [Option.some.injEq, Prod.mk.injEq] at H
    obtain ⟨rfl, rfl⟩ := H
    go_enter Try.func15, Try.ntmps15
    go_wp2_with (first | ((with_reducible refine gate_dst (N := 2) rfl ?_); refine box_event ?hg (N := 2) ?hd (cs := #[.int .u8 a0_0, .bool a0_1, .bool a0_2, .bool a0_3, .int .u64 a0_4]) (t := 40) ?hr ?_; (case hd => rfl); (case hg => rfl); (case hr => first | (go_simp; done) | (go_simp; rfl)); intro gb248 hg w4 hbox hb; have n0_ := Aside0.mk (below_step (by repeat (first | (with_reducible first | exact HB.out | apply below_alloc | apply pw_below_drewN | apply below_drew1) | exact HB.out)) hb); have n1_ := Aside0.mk (hbox); have n2_ := Aside0.mk ((by rw [hg]; exact (below_size (by repeat (first | (with_reducible first | exact HB.out | apply below_alloc | apply pw_below_drewN | apply below_drew1) | exact HB.out))) : w.heap.size ≤ gb248)); have n3_ := Aside0.mk ((by rw [hg]; exact (below_size (by repeat (first | (with_reducible first | exact HB.out | apply below_alloc | apply pw_below_drewN | apply below_drew1) | exact HB.out))) : w.heap.size ≤ gb248)); clear HB; have HB := n0_; have BK248 := n1_; have GW248 := n2_; have GE248 := n3_; clear n0_ n1_ n2_ n3_; clear hb hbox hg))
    go_ret2
    exact ⟨by first | rfl | (simp [errW_none, errW_some] <;> rfl) | (simp [*, errW_none, errW_some] <;> rfl), by repeat (first | (with_reducible first | exact HB.out | apply below_alloc | apply pw_below_drewN | apply below_drew1 | refine below_set ?_ GE248.out) | exact HB.out)⟩
  · rw [if_neg c3] at H
    have c3b0 : decide (7 < a1) = false := decide_eq_false c3
    clear c3
    replace H := Option.bind_eq_some_iff.mp H
    obtain ⟨t249, A50, H⟩ := H
    replace H : (if t249 = 0 then (if a0_1 = true then (carouselref05_Close.j0 k a1 (0 + 128) a0_0 a0_1 a0_2 a0_3 a0_4) else (carouselref05_Close.j0 k a1 0 a0_0 a0_1 a0_2 a0_3 a0_4)) else (some ((⟨#[]⟩ : ByteArray), t249))) = some (r1, r2) := H
    have A5 := Aside0.mk A50
    clear A50
    by_cases c6 : t249 = 0
    · rw [if_pos c6] at H
      have c6b0 : (t249 == 0) = true := beq_iff_eq.mpr c6
      have c6b1 : (t249 != 0) = false := bne_eq_false_iff_eq.mpr c6
      clear c6
      have HC7 := Aside0.mk H
      clear H
      go_enter Try.func15, Try.ntmps15
      go_upto_if 16 with (first | ((with_reducible refine gate_dst (N := 2) rfl ?_); refine box_event ?hg (N := 2) ?hd (cs := #[.int .u8 a0_0, .bool a0_1, .bool a0_2, .bool a0_3, .int .u64 a0_4]) (t := 40) ?hr ?_; (case hd => rfl); (case hg => rfl); (case hr => first | (go_simp; done) | (go_simp; rfl)); intro gb248 hg w8 hbox hb; have n0_ := Aside0.mk (below_step (by repeat (first | (with_reducible first | exact HB.out | apply below_alloc | apply pw_below_drewN | apply below_drew1) | exact HB.out)) hb); have n1_ := Aside0.mk (hbox); have n2_ := Aside0.mk ((by rw [hg]; exact (below_size (by repeat (first | (with_reducible first | exact HB.out | apply below_alloc | apply pw_below_drewN | apply below_drew1) | exact HB.out))) : w.heap.size ≤ gb248)); have n3_ := Aside0.mk ((by rw [hg]; exact (below_size (by repeat (first | (with_reducible first | exact HB.out | apply below_alloc | apply pw_below_drewN | apply below_drew1) | exact HB.out))) : w.heap.size ≤ gb248)); clear HB; have HB := n0_; have BK248 := n1_; have GW248 := n2_; have GE248 := n3_; clear n0_ n1_ n2_ n3_; clear hb hbox hg; have hcz9_0 : w8.cell? ⟨gb248, 0, none⟩ = some (.int .u8 a0_0) := (blk_cell BK248.out 0).trans rfl; have hcz9_1 : w8.cell? ⟨gb248, 1, none⟩ = some (.bool a0_1) := (blk_cell BK248.out 1).trans rfl; have hcz9_2 : w8.cell? ⟨gb248, 2, none⟩ = some (.bool a0_2) := (blk_cell BK248.out 2).trans rfl; have hcz9_3 : w8.cell? ⟨gb248, 3, none⟩ = some (.bool a0_3) := (blk_cell BK248.out 3).trans rfl; have hcz9_4 : w8.cell? ⟨gb248, 4, none⟩ = some (.int .u64 a0_4) := (blk_cell BK248.out 4).trans rfl; have hfz9_0 := blk_frozen BK248.out 0; have hfz9_1 := blk_frozen BK248.out 1; have hfz9_2 := blk_frozen BK248.out 2; have hfz9_3 := blk_frozen BK248.out 3; have hfz9_4 := blk_frozen BK248.out 4) | ((with_reducible refine gate_callee (f := 42) rfl ?_); refine goesL_ (some 11) rfl rfl Try.func42 (by kernel_rfl) rfl #[.agg #[.int .u8 a0_0, .bool a0_1, .bool a0_2, .bool a0_3, .int .u64 a0_4]] rfl (by (try simp only [List.map_toArray, List.map_cons, List.map_nil]); first | done | rfl | (simp only [List.length_drop, List.length_take]; rfl)) ?_; (with_reducible refine (carouselref05_wrong.calls k a0_0 a0_1 a0_2 a0_3 a0_4 t249 _ A5.out).mono ?_); rintro e w10 ⟨rfl, hb⟩; refine ⟨_, rfl, ?_⟩; have n0_ := Aside0.mk (blk_below (g := gb248) (o := .cells #[.int .u8 a0_0, .bool a0_1, .bool a0_2, .bool a0_3, .int .u64 a0_4] 40 (0, 0)) (by (with_reducible repeat (first | refine blk_drewN ?_ _ | refine blk_drew ?_ | refine blk_alloc ?_ _)); exact BK248.out) hb); have n1_ := Aside0.mk (below_step (by repeat (first | (with_reducible first | exact HB.out | apply below_alloc | apply pw_below_drewN | apply below_drew1 | refine below_set ?_ GE248.out) | exact HB.out)) hb); clear BK248; clear HB; have BK248 := n0_; have HB := n1_; clear n0_ n1_; (try clear hb); (try clear hb2); (try clear hk); (try clear hi); have hcz11_0 : w10.cell? ⟨gb248, 0, none⟩ = some (.int .u8 a0_0) := (blk_cell BK248.out 0).trans rfl; have hcz11_1 : w10.cell? ⟨gb248, 1, none⟩ = some (.bool a0_1) := (blk_cell BK248.out 1).trans rfl; have hcz11_2 : w10.cell? ⟨gb248, 2, none⟩ = some (.bool a0_2) := (blk_cell BK248.out 2).trans rfl; have hcz11_3 : w10.cell? ⟨gb248, 3, none⟩ = some (.bool a0_3) := (blk_cell BK248.out 3).trans rfl; have hcz11_4 : w10.cell? ⟨gb248, 4, none⟩ = some (.int .u64 a0_4) := (blk_cell BK248.out 4).trans rfl; have hfz11_0 := blk_frozen BK248.out 0; have hfz11_1 := blk_frozen BK248.out 1; have hfz11_2 := blk_frozen BK248.out 2; have hfz11_3 := blk_frozen BK248.out 3; have hfz11_4 := blk_frozen BK248.out 4))
      (try simp only [Act.put, List.setIfInBounds_toArray, List.set_cons_zero, List.set_cons_succ])
      go_cut [7] (fun v7 wc => ∃ (kq : Nat) (x7_6 : Int), v7 = .int .i64 x7_6 ∧ Aside0 (carouselref05_Close.j0 kq a1 x7_6 a0_0 a0_1 a0_2 a0_3 a0_4 = some (r1, r2)) ∧ Aside0 (kq ≤ k) ∧ Aside0 (wc.heap[gb248]? = some (.cells #[.int .u8 a0_0, .bool a0_1, .bool a0_2, .bool a0_3, .int .u64 a0_4] 40 (0, 0))) ∧ Aside0 (Below w.heap.size w wc))
      case first =>
        have H := HC7.out
        clear HC7
        by_cases c12 : a0_1 = true
        · subst c12
          have H1 : (carouselref05_Close.j0 k a1 (0 + 128) a0_0 true a0_2 a0_3 a0_4) = some (r1, r2) := by rw [if_pos rfl] at H; exact H
          clear H
          have H := H1
          clear H1
          have H' := Aside0.mk H
          clear H
          go_wp2
          go_meet
          case rel => exact ⟨_, (0 + 128), (by first | rfl | (simp; done) | (simp [*]; done)), H', ⟨by first | omega | exact Nat.le_refl _⟩, ⟨by (with_reducible repeat (first | refine blk_drewN ?_ _ | refine blk_drew ?_ | refine blk_alloc ?_ _)); exact BK248.out⟩, ⟨by repeat (first | (with_reducible first | exact HB.out | apply below_alloc | apply pw_below_drewN | apply below_drew1 | refine below_set ?_ GE248.out) | exact HB.out)⟩⟩
        · replace c12 := Bool.eq_false_iff.mpr c12
          subst c12
          have H1 : (carouselref05_Close.j0 k a1 0 a0_0 false a0_2 a0_3 a0_4) = some (r1, r2) := by rw [if_neg (show ¬ (false = true) by decide)] at H; exact H
          clear H
          have H := H1
          clear H1
          have H' := Aside0.mk H
          clear H
          go_wp2
          go_meet
          case rel => exact ⟨_, (0), (by first | rfl | (simp; done) | (simp [*]; done)), H', ⟨by first | omega | exact Nat.le_refl _⟩, ⟨by (with_reducible repeat (first | refine blk_drewN ?_ _ | refine blk_drew ?_ | refine blk_alloc ?_ _)); exact BK248.out⟩, ⟨by repeat (first | (with_reducible first | exact HB.out | apply below_alloc | apply pw_below_drewN | apply below_drew1 | refine below_set ?_ GE248.out) | exact HB.out)⟩⟩
      case rest =>
        clear HC7
        try clear c1
        try clear p2
        try clear c3
        try clear c3b0
        try clear c4
        try clear c6
        try clear c6b0
        try clear c6b1
        try clear c12
        try clear hcz11_0
        try clear hcz11_1
        try clear hcz11_2
        try clear hcz11_3
        try clear hcz11_4
        try clear hcz9_0
        try clear hcz9_1
        try clear hcz9_2
        try clear hcz9_3
        try clear hcz9_4
        try clear hfz11_0
        try clear hfz11_1
        try clear hfz11_2
        try clear hfz11_3
        try clear hfz11_4
        try clear hfz9_0
        try clear hfz9_1
        try clear hfz9_2
        try clear hfz9_3
        try clear hfz9_4
        obtain ⟨kq, x7_6, rfl, HA, HJ6, BK248, HB⟩ := hcut
        cases kq with
        | zero => exact absurd HA.out (by simp [carouselref05_Close.j0])
        | succ kj6 =>
          have H := HA.out
          clear HA
          simp only [carouselref05_Close.j0] at H
          have HC13 := Aside0.mk H
          clear H
          have hcz14_0 : wc.cell? ⟨gb248, 0, none⟩ = some (.int .u8 a0_0) := (blk_cell BK248.out 0).trans rfl
          have hcz14_1 : wc.cell? ⟨gb248, 1, none⟩ = some (.bool a0_1) := (blk_cell BK248.out 1).trans rfl
          have hcz14_2 : wc.cell? ⟨gb248, 2, none⟩ = some (.bool a0_2) := (blk_cell BK248.out 2).trans rfl
          have hcz14_3 : wc.cell? ⟨gb248, 3, none⟩ = some (.bool a0_3) := (blk_cell BK248.out 3).trans rfl
          have hcz14_4 : wc.cell? ⟨gb248, 4, none⟩ = some (.int .u64 a0_4) := (blk_cell BK248.out 4).trans rfl
          have hfz14_0 := blk_frozen BK248.out 0
          have hfz14_1 := blk_frozen BK248.out 1
          have hfz14_2 := blk_frozen BK248.out 2
          have hfz14_3 := blk_frozen BK248.out 3
          have hfz14_4 := blk_frozen BK248.out 4
          go_upto_if 20 with (fail)
          go_cut [7] (fun v7 wc => ∃ (kq : Nat) (x7_12 : Int), v7 = .int .i64 x7_12 ∧ Aside0 (carouselref05_Close.j1 kq a1 x7_12 a0_0 a0_1 a0_2 a0_3 a0_4 = some (r1, r2)) ∧ Aside0 (kq ≤ kj6) ∧ Aside0 (wc.heap[gb248]? = some (.cells #[.int .u8 a0_0, .bool a0_1, .bool a0_2, .bool a0_3, .int .u64 a0_4] 40 (0, 0))) ∧ Aside0 (Below w.heap.size w wc))
          case first =>
            have H := HC13.out
            clear HC13
            by_cases c15 : a0_2 = true
            · subst c15
              have H1 : (carouselref05_Close.j1 kj6 a1 (wrap64 (x7_6 + 64)) a0_0 a0_1 true a0_3 a0_4) = some (r1, r2) := by rw [if_pos rfl] at H; exact H
              clear H
              have H := H1
              clear H1
              have H' := Aside0.mk H
              clear H
              go_wp2
              go_meet
              case rel => exact ⟨_, (wrap64 (x7_6 + 64)), (by first | rfl | (simp; done) | (simp [*]; done)), H', ⟨by have := HJ6.out; first | omega | exact Nat.le_refl _⟩, ⟨by (with_reducible repeat (first | refine blk_drewN ?_ _ | refine blk_drew ?_ | refine blk_alloc ?_ _)); exact BK248.out⟩, ⟨by repeat (first | (with_reducible first | exact HB.out | apply below_alloc | apply pw_below_drewN | apply below_drew1 | refine below_set ?_ GE248.out) | exact HB.out)⟩⟩
            · replace c15 := Bool.eq_false_iff.mpr c15
              subst c15
              have H1 : (carouselref05_Close.j1 kj6 a1 x7_6 a0_0 a0_1 false a0_3 a0_4) = some (r1, r2) := by rw [if_neg (show ¬ (false = true) by decide)] at H; exact H
              clear H
              have H := H1
              clear H1
              have H' := Aside0.mk H
              clear H
              go_wp2
              go_meet
              case rel => exact ⟨_, (x7_6), (by first | rfl | (simp; done) | (simp [*]; done)), H', ⟨by have := HJ6.out; first | omega | exact Nat.le_refl _⟩, ⟨by (with_reducible repeat (first | refine blk_drewN ?_ _ | refine blk_drew ?_ | refine blk_alloc ?_ _)); exact BK248.out⟩, ⟨by repeat (first | (with_reducible first | exact HB.out | apply below_alloc | apply pw_below_drewN | apply below_drew1 | refine below_set ?_ GE248.out) | exact HB.out)⟩⟩
          case rest =>
            clear HC13
            try clear c1
            try clear p2
            try clear c3
            try clear c3b0
            try clear c4
            try clear c6
            try clear c6b0
            try clear c6b1
            try clear p6
            try clear c12
            try clear c15
            try clear hcz11_0
            try clear hcz11_1
            try clear hcz11_2
            try clear hcz11_3
            try clear hcz11_4
            try clear hcz14_0
            try clear hcz14_1
            try clear hcz14_2
            try clear hcz14_3
            try clear hcz14_4
            try clear hcz9_0
            try clear hcz9_1
            try clear hcz9_2
            try clear hcz9_3
            try clear hcz9_4
            try clear hfz11_0
            try clear hfz11_1
            try clear hfz11_2
            try clear hfz11_3
            try clear hfz11_4
            try clear hfz14_0
            try clear hfz14_1
            try clear hfz14_2
            try clear hfz14_3
            try clear hfz14_4
            try clear hfz9_0
            try clear hfz9_1
            try clear hfz9_2
            try clear hfz9_3
            try clear hfz9_4
            try clear p2
            obtain ⟨kq, x7_12, rfl, HA, HJ12, BK248, HB⟩ := hcut
            cases kq with
            | zero => exact absurd HA.out (by simp [carouselref05_Close.j1])
            | succ kj12 =>
              have H := HA.out
              clear HA
              simp only [carouselref05_Close.j1] at H
              have HC16 := Aside0.mk H
              clear H
              have hcz17_0 : wc.cell? ⟨gb248, 0, none⟩ = some (.int .u8 a0_0) := (blk_cell BK248.out 0).trans rfl
              have hcz17_1 : wc.cell? ⟨gb248, 1, none⟩ = some (.bool a0_1) := (blk_cell BK248.out 1).trans rfl
              have hcz17_2 : wc.cell? ⟨gb248, 2, none⟩ = some (.bool a0_2) := (blk_cell BK248.out 2).trans rfl
              have hcz17_3 : wc.cell? ⟨gb248, 3, none⟩ = some (.bool a0_3) := (blk_cell BK248.out 3).trans rfl
              have hcz17_4 : wc.cell? ⟨gb248, 4, none⟩ = some (.int .u64 a0_4) := (blk_cell BK248.out 4).trans rfl
              have hfz17_0 := blk_frozen BK248.out 0
              have hfz17_1 := blk_frozen BK248.out 1
              have hfz17_2 := blk_frozen BK248.out 2
              have hfz17_3 := blk_frozen BK248.out 3
              have hfz17_4 := blk_frozen BK248.out 4
              go_upto_if 24 with (fail)
              go_cut [7] (fun v7 wc => ∃ (kq : Nat) (x7_15 : Int), v7 = .int .i64 x7_15 ∧ Aside0 (carouselref05_Close.j2 kq a1 x7_15 a0_0 a0_1 a0_2 a0_3 a0_4 = some (r1, r2)) ∧ Aside0 (kq ≤ kj12) ∧ Aside0 (wc.heap[gb248]? = some (.cells #[.int .u8 a0_0, .bool a0_1, .bool a0_2, .bool a0_3, .int .u64 a0_4] 40 (0, 0))) ∧ Aside0 (Below w.heap.size w wc))
              case first =>
                have H := HC16.out
                clear HC16
                by_cases c18 : a0_3 = true
                · subst c18
                  have H1 : (carouselref05_Close.j2 kj12 a1 (wrap64 (x7_12 + 32)) a0_0 a0_1 a0_2 true a0_4) = some (r1, r2) := by rw [if_pos rfl] at H; exact H
                  clear H
                  have H := H1
                  clear H1
                  have H' := Aside0.mk H
                  clear H
                  go_wp2
                  go_meet
                  case rel => exact ⟨_, (wrap64 (x7_12 + 32)), (by first | rfl | (simp; done) | (simp [*]; done)), H', ⟨by have := HJ6.out; have := HJ12.out; first | omega | exact Nat.le_refl _⟩, ⟨by (with_reducible repeat (first | refine blk_drewN ?_ _ | refine blk_drew ?_ | refine blk_alloc ?_ _)); exact BK248.out⟩, ⟨by repeat (first | (with_reducible first | exact HB.out | apply below_alloc | apply pw_below_drewN | apply below_drew1 | refine below_set ?_ GE248.out) | exact HB.out)⟩⟩
                · replace c18 := Bool.eq_false_iff.mpr c18
                  subst c18
                  have H1 : (carouselref05_Close.j2 kj12 a1 x7_12 a0_0 a0_1 a0_2 false a0_4) = some (r1, r2) := by rw [if_neg (show ¬ (false = true) by decide)] at H; exact H
                  clear H
                  have H := H1
                  clear H1
                  have H' := Aside0.mk H
                  clear H
                  go_wp2
                  go_meet
                  case rel => exact ⟨_, (x7_12), (by first | rfl | (simp; done) | (simp [*]; done)), H', ⟨by have := HJ6.out; have := HJ12.out; first | omega | exact Nat.le_refl _⟩, ⟨by (with_reducible repeat (first | refine blk_drewN ?_ _ | refine blk_drew ?_ | refine blk_alloc ?_ _)); exact BK248.out⟩, ⟨by repeat (first | (with_reducible first | exact HB.out | apply below_alloc | apply pw_below_drewN | apply below_drew1 | refine below_set ?_ GE248.out) | exact HB.out)⟩⟩
              case rest =>
                clear HC16
                try clear c1
                try clear p2
                try clear c3
                try clear c3b0
                try clear c4
                try clear c6
                try clear c6b0
                try clear c6b1
                try clear p6
                try clear c12
                try clear c15
                try clear c18
                try clear hcz11_0
                try clear hcz11_1
                try clear hcz11_2
                try clear hcz11_3
                try clear hcz11_4
                try clear hcz14_0
                try clear hcz14_1
                try clear hcz14_2
                try clear hcz14_3
                try clear hcz14_4
                try clear hcz17_0
                try clear hcz17_1
                try clear hcz17_2
                try clear hcz17_3
                try clear hcz17_4
                try clear hcz9_0
                try clear hcz9_1
                try clear hcz9_2
                try clear hcz9_3
                try clear hcz9_4
                try clear hfz11_0
                try clear hfz11_1
                try clear hfz11_2
                try clear hfz11_3
                try clear hfz11_4
                try clear hfz14_0
                try clear hfz14_1
                try clear hfz14_2
                try clear hfz14_3
                try clear hfz14_4
                try clear hfz17_0
                try clear hfz17_1
                try clear hfz17_2
                try clear hfz17_3
                try clear hfz17_4
                try clear hfz9_0
                try clear hfz9_1
                try clear hfz9_2
                try clear hfz9_3
                try clear hfz9_4
                try clear p2
                try clear p6
                obtain ⟨kq, x7_15, rfl, HA, HJ15, BK248, HB⟩ := hcut
                cases kq with
                | zero => exact absurd HA.out (by simp [carouselref05_Close.j2])
                | succ kj15 =>
                  have H := HA.out
                  clear HA
                  simp only [carouselref05_Close.j2] at H
                  obtain ⟨y250, hy250⟩ : ∃ y_ : List Int, y_ = (([(a0_0 * 16) % 256, (x7_15) % 256] : List Int)) := ⟨_, rfl⟩
                  replace H : ((carouselref02_Bytes.f kj15 a0_4).bind fun t253 => (if (strOfNums y250).size + t253.size ≤ 9223372036854775807 then (if 24 ≤ 281474976710656 then ((some (List.replicate 24 0 : List Int)).bind fun y254 => (if (strOfNums y250).size + t253.size + (strOfNums y254).size ≤ 9223372036854775807 then ((carouselref04_Close.f kj15 a1 1 40 0 32 (((strOfNums y250) ++ t253) ++ (strOfNums y254))).bind fun bt257 => (some (bt257.1, bt257.2))) else (none))) else (none)) else (none))) = some (r1, r2) := by first | (rw [hy250]; with_reducible exact H) | (have H2_ := (Option.bind_some _ _).symm.trans H; rw [hy250]; with_reducible exact H2_) | (have H2_ := (Option.bind_some _ _).symm.trans H; with_reducible exact H2_) | with_reducible exact H | (rw [hy250]; exact H) | exact H
                  have Ny250 := Aside0.mk hy250
                  clear hy250
                  replace H := Option.bind_eq_some_iff.mp H
                  obtain ⟨t253, A190, H⟩ := H
                  replace H : (if (strOfNums y250).size + t253.size ≤ 9223372036854775807 then (if 24 ≤ 281474976710656 then ((some (List.replicate 24 0 : List Int)).bind fun y254 => (if (strOfNums y250).size + t253.size + (strOfNums y254).size ≤ 9223372036854775807 then ((carouselref04_Close.f kj15 a1 1 40 0 32 (((strOfNums y250) ++ t253) ++ (strOfNums y254))).bind fun bt257 => (some (bt257.1, bt257.2))) else (none))) else (none)) else (none)) = some (r1, r2) := H
                  have A19 := Aside0.mk A190
                  clear A190
                  by_cases c20 : (strOfNums y250).size + t253.size ≤ 9223372036854775807
                  · rw [if_pos c20] at H
                    have c20b0 := eq_true c20
                    have c20b1 : decide ((strOfNums y250).size + t253.size ≤ 9223372036854775807) = true := decide_eq_true c20
                    try have c20b2 : (9223372036854775807 < (strOfNums y250).size + t253.size) = False := eq_false (Nat.not_lt.2 c20)
                    by_cases c21 : 24 ≤ 281474976710656
                    · rw [if_pos c21] at H
                      have c21b0 := eq_true c21
                      have c21b1 : decide (24 ≤ 281474976710656) = true := decide_eq_true c21
                      clear c21
                      obtain ⟨y254, hy254⟩ : ∃ y_ : List Int, y_ = (List.replicate 24 0) := ⟨_, rfl⟩
                      replace H : (if (strOfNums y250).size + t253.size + (strOfNums y254).size ≤ 9223372036854775807 then ((carouselref04_Close.f kj15 a1 1 40 0 32 (((strOfNums y250) ++ t253) ++ (strOfNums y254))).bind fun bt257 => (some (bt257.1, bt257.2))) else (none)) = some (r1, r2) := by first | (rw [hy254]; with_reducible exact H) | (have H2_ := (Option.bind_some _ _).symm.trans H; rw [hy254]; with_reducible exact H2_) | (have H2_ := (Option.bind_some _ _).symm.trans H; with_reducible exact H2_) | with_reducible exact H | (rw [hy254]; exact H) | exact H
                      have Ny254 := Aside0.mk hy254
                      clear hy254
                      by_cases c22 : (strOfNums y250).size + t253.size + (strOfNums y254).size ≤ 9223372036854775807
                      · rw [if_pos c22] at H
                        have c22b0 := eq_true c22
                        have c22b1 : decide ((strOfNums y250).size + t253.size + (strOfNums y254).size ≤ 9223372036854775807) = true := decide_eq_true c22
                        try have c22b2 : (9223372036854775807 < (strOfNums y250).size + t253.size + (strOfNums y254).size) = False := eq_false (Nat.not_lt.2 c22)
                        replace H := Option.bind_eq_some_iff.mp H
                        obtain ⟨⟨t257, t258⟩, A230, H⟩ := H
                        replace H : (some (t257, t258)) = some (r1, r2) := H
                        have A23 := Aside0.mk A230
                        clear A230
                        simp only [Option.some.injEq, Prod.mk.injEq] at H
                        obtain ⟨rfl, rfl⟩ := H
                        try go_wp2
                        have n0_ := Aside0.mk (blk_drew BK248.out)
                        have n1_ := Aside0.mk (below_drew1 HB.out)
                        clear BK248
                        clear HB
                        have BK248 := n0_
                        have HB := n1_
                        clear n0_ n1_
                        refine start_ (n := 21) (S := fun w' => w'.cell? ⟨gb248, 0, none⟩ = some (.int .u8 a0_0) ∧ w'.cell? ⟨gb248, 1, none⟩ = some (.bool a0_1) ∧ w'.cell? ⟨gb248, 2, none⟩ = some (.bool a0_2) ∧ w'.cell? ⟨gb248, 3, none⟩ = some (.bool a0_3) ∧ w'.cell? ⟨gb248, 4, none⟩ = some (.int .u64 a0_4)) (ds := []) #[false, false, false, false, false, false, false, false, false, false, false, false, false, false, false, false, false, false, false, false, false] (by kernel_rfl) rfl rfl ⟨(blk_cell BK248.out 0).trans rfl, (blk_cell BK248.out 1).trans rfl, (blk_cell BK248.out 2).trans rfl, (blk_cell BK248.out 3).trans rfl, (blk_cell BK248.out 4).trans rfl⟩ (fun hHeld => ?_); refine with_tabW carouselref05_Close.tab13 carouselref05_Close.bits13 (fun HT_ HW_ => ?_)
                        generalize wc.drew = w24 at BK248 HB hHeld ⊢
                        refine pure_ (i := 0) (N := some 27) (v := ?_) (a' := ?_) #[true, false, false, false, false, false, false, false, false, false, false, false, false, false, false, false, false, false, false, false, false] rfl rfl (any_of HT_.out (by kernel_rfl)) (fun _ _ _ h => h) (Or.inl ⟨by rfl, ?_⟩) ?_ ?_
                        rotate_left
                        · intro w'
                          go_simp
                          with_reducible rfl
                        rotate_left
                        · simp only [Act.put, List.setIfInBounds_toArray, List.set_cons_zero, List.set_cons_succ, i64_w, i32_w]
                          rfl
                        refine pure_ (i := 1) (N := some 28) (v := ?_) (a' := ?_) #[true, true, false, false, false, false, false, false, false, false, false, false, false, false, false, false, false, false, false, false, false] rfl rfl (any_of HT_.out (by kernel_rfl)) (fun _ _ _ h => h) (Or.inl ⟨by rfl, ?_⟩) ?_ ?_
                        rotate_left
                        · intro w'
                          go_simp
                          with_reducible rfl
                        rotate_left
                        · simp only [Act.put, List.setIfInBounds_toArray, List.set_cons_zero, List.set_cons_succ, i64_w, i32_w]
                          rfl
                        refine pure_ (i := 2) (N := some 29) (v := ?_) (a' := ?_) #[true, true, true, false, false, false, false, false, false, false, false, false, false, false, false, false, false, false, false, false, false] rfl rfl (any_of HT_.out (by kernel_rfl)) (fun _ _ _ h => h) (Or.inl ⟨by rfl, ?_⟩) ?_ ?_
                        rotate_left
                        · intro w'
                          go_simp
                          with_reducible rfl
                        rotate_left
                        · simp only [Act.put, List.setIfInBounds_toArray, List.set_cons_zero, List.set_cons_succ, i64_w, i32_w]
                          rfl
                        refine pure_ (i := 5) (N := some 32) (v := ?_) (a' := ?_) #[true, true, true, false, false, true, false, false, false, false, false, false, false, false, false, false, false, false, false, false, false] rfl rfl (any_of HT_.out (by kernel_rfl)) (fun _ _ _ h => h) (Or.inl ⟨by rfl, ?_⟩) ?_ ?_
                        rotate_left
                        · intro w'
                          go_simp
                          with_reducible rfl
                        rotate_left
                        · simp only [Act.put, List.setIfInBounds_toArray, List.set_cons_zero, List.set_cons_succ, i64_w, i32_w]
                          rfl
                        refine pure_ (i := 6) (N := some 33) (v := ?_) (a' := ?_) #[true, true, true, false, false, true, true, false, false, false, false, false, false, false, false, false, false, false, false, false, false] rfl rfl (any_of HT_.out (by kernel_rfl)) (fun _ _ _ h => h) (Or.inl ⟨by rfl, ?_⟩) ?_ ?_
                        rotate_left
                        · intro w'
                          go_simp
                          with_reducible rfl
                        rotate_left
                        · simp only [Act.put, List.setIfInBounds_toArray, List.set_cons_zero, List.set_cons_succ, i64_w, i32_w]
                          rfl
                        refine pure_ (i := 9) (N := some 36) (v := ?_) (a' := ?_) #[true, true, true, false, false, true, true, false, false, true, false, false, false, false, false, false, false, false, false, false, false] rfl rfl (any_of HT_.out (by kernel_rfl)) (fun _ _ _ h => h) (Or.inl ⟨by rfl, ?_⟩) ?_ ?_
                        rotate_left
                        · intro w'
                          go_simp
                          with_reducible rfl
                        rotate_left
                        · simp only [Act.put, List.setIfInBounds_toArray, List.set_cons_zero, List.set_cons_succ, i64_w, i32_w]
                          rfl
                        refine take_ (i := 3) (N := some 30) (v := ?_) (a' := ?_) #[true, true, true, true, false, true, true, false, false, true, false, false, false, false, false, false, false, false, false, false, false] rfl rfl (take_ofW HT_.out HW_.out (by kernel_rfl)) (fun _ _ _ h => h) (Or.inl ⟨by rfl, ?_⟩) hHeld ?_ ?_
                        rotate_left
                        · rintro w' ⟨s0, s1, s2, s3, s4⟩
                          go_simp
                          with_reducible rfl
                        rotate_left
                        · simp only [Act.put, List.setIfInBounds_toArray, List.set_cons_zero, List.set_cons_succ, i64_w, i32_w]
                          rfl
                        refine pure_ (i := 4) (N := some 31) (v := ?_) (a' := ?_) #[true, true, true, true, true, true, true, false, false, true, false, false, false, false, false, false, false, false, false, false, false] rfl rfl (any_of HT_.out (by kernel_rfl)) (fun _ _ _ h => h) (Or.inl ⟨by rfl, ?_⟩) ?_ ?_
                        rotate_left
                        · intro w'
                          go_simp
                          with_reducible rfl
                        rotate_left
                        · simp only [Act.put, List.setIfInBounds_toArray, List.set_cons_zero, List.set_cons_succ, i64_w, i32_w]
                          rfl
                        refine take_ (i := 10) (N := some 37) (v := ?_) (a' := ?_) #[true, true, true, true, true, true, true, false, false, true, true, false, false, false, false, false, false, false, false, false, false] rfl rfl (take_ofW HT_.out HW_.out (by kernel_rfl)) (fun _ _ _ h => h) (Or.inl ⟨by rfl, ?_⟩) hHeld ?_ ?_
                        rotate_left
                        · rintro w' ⟨s0, s1, s2, s3, s4⟩
                          go_simp
                          with_reducible rfl
                        rotate_left
                        · simp only [Act.put, List.setIfInBounds_toArray, List.set_cons_zero, List.set_cons_succ, i64_w, i32_w]
                          rfl
                        refine join_ (σ := Value × Value) 6 #[true, true, true, true, true, true, true, true, true, true, true, true, true, true, true, false, false, false, false, false, false] (fun s_ => [(34, s_.1), (35, .string (strOfNums y250)), (38, .string t253), (40, s_.2), (41, .string (strOfNums y254)), (39, .string ((strOfNums y250) ++ t253))]) (fun s_ w' => (w'.cell? ⟨gb248, 0, none⟩ = some (.int .u8 a0_0) ∧ w'.cell? ⟨gb248, 1, none⟩ = some (.bool a0_1) ∧ w'.cell? ⟨gb248, 2, none⟩ = some (.bool a0_2) ∧ w'.cell? ⟨gb248, 3, none⟩ = some (.bool a0_3) ∧ w'.cell? ⟨gb248, 4, none⟩ = some (.int .u64 a0_4)) ∧ (Kd.R (Kd.int .u8) 5 w' w.heap.size (fun k_ => some k_ ≠ (s_.2 : Value).ownBlock) s_.1 y250) ∧ (Kd.R (Kd.int .u8) 5 w' w.heap.size (fun k_ => some k_ ≠ (s_.1 : Value).ownBlock) s_.2 y254) ∧ (w'.heap[gb248]? = some (.cells #[.int .u8 a0_0, .bool a0_1, .bool a0_2, .bool a0_3, .int .u64 a0_4] 40 (0, 0))) ∧ (Below w.heap.size w w')) ?_ ?_
                        rotate_left
                        · intro hJ7_8_11_13_14
                          refine join_ (σ := Value × Value) 7 #[true, true, true, true, true, true, true, true, true, true, true, true, true, true, false, false, false, false, false, false, false] (fun s_ => [(34, s_.1), (35, .string (strOfNums y250)), (38, .string t253), (40, s_.2), (39, .string ((strOfNums y250) ++ t253))]) (fun s_ w' => (w'.cell? ⟨gb248, 0, none⟩ = some (.int .u8 a0_0) ∧ w'.cell? ⟨gb248, 1, none⟩ = some (.bool a0_1) ∧ w'.cell? ⟨gb248, 2, none⟩ = some (.bool a0_2) ∧ w'.cell? ⟨gb248, 3, none⟩ = some (.bool a0_3) ∧ w'.cell? ⟨gb248, 4, none⟩ = some (.int .u64 a0_4)) ∧ (Kd.R (Kd.int .u8) 5 w' w.heap.size (fun k_ => some k_ ≠ (s_.2 : Value).ownBlock) s_.1 y250) ∧ (Kd.R (Kd.int .u8) 5 w' w.heap.size (fun k_ => some k_ ≠ (s_.1 : Value).ownBlock) s_.2 y254) ∧ (w'.heap[gb248]? = some (.cells #[.int .u8 a0_0, .bool a0_1, .bool a0_2, .bool a0_3, .int .u64 a0_4] 40 (0, 0))) ∧ (Below w.heap.size w w')) ?_ ?_
                          rotate_left
                          · intro hJ7_8_11_13
                            refine join_ (σ := Value × Value) 8 #[true, true, true, true, true, true, true, true, true, true, true, false, false, true, true, false, false, false, false, false, false] (fun s_ => [(34, s_.1), (35, .string (strOfNums y250)), (40, s_.2), (41, .string (strOfNums y254))]) (fun s_ w' => (w'.cell? ⟨gb248, 0, none⟩ = some (.int .u8 a0_0) ∧ w'.cell? ⟨gb248, 1, none⟩ = some (.bool a0_1) ∧ w'.cell? ⟨gb248, 2, none⟩ = some (.bool a0_2) ∧ w'.cell? ⟨gb248, 3, none⟩ = some (.bool a0_3) ∧ w'.cell? ⟨gb248, 4, none⟩ = some (.int .u64 a0_4)) ∧ (Kd.R (Kd.int .u8) 5 w' w.heap.size (fun k_ => some k_ ≠ (s_.2 : Value).ownBlock) s_.1 y250) ∧ (Kd.R (Kd.int .u8) 5 w' w.heap.size (fun k_ => some k_ ≠ (s_.1 : Value).ownBlock) s_.2 y254) ∧ (w'.heap[gb248]? = some (.cells #[.int .u8 a0_0, .bool a0_1, .bool a0_2, .bool a0_3, .int .u64 a0_4] 40 (0, 0))) ∧ (Below w.heap.size w w')) ?_ ?_
                            rotate_left
                            · intro hJ7_8_13_14
                              refine join_ (σ := Value × Value) 8 #[true, true, true, true, true, true, true, true, false, true, true, true, false, true, true, false, false, false, false, false, false] (fun s_ => [(34, s_.1), (38, .string t253), (40, s_.2), (41, .string (strOfNums y254))]) (fun s_ w' => (w'.cell? ⟨gb248, 0, none⟩ = some (.int .u8 a0_0) ∧ w'.cell? ⟨gb248, 1, none⟩ = some (.bool a0_1) ∧ w'.cell? ⟨gb248, 2, none⟩ = some (.bool a0_2) ∧ w'.cell? ⟨gb248, 3, none⟩ = some (.bool a0_3) ∧ w'.cell? ⟨gb248, 4, none⟩ = some (.int .u64 a0_4)) ∧ (Kd.R (Kd.int .u8) 5 w' w.heap.size (fun k_ => some k_ ≠ (s_.2 : Value).ownBlock) s_.1 y250) ∧ (Kd.R (Kd.int .u8) 5 w' w.heap.size (fun k_ => some k_ ≠ (s_.1 : Value).ownBlock) s_.2 y254) ∧ (w'.heap[gb248]? = some (.cells #[.int .u8 a0_0, .bool a0_1, .bool a0_2, .bool a0_3, .int .u64 a0_4] 40 (0, 0))) ∧ (Below w.heap.size w w')) ?_ ?_
                              rotate_left
                              · intro hJ7_11_13_14
                                refine join_ (σ := Value) 8 #[true, true, true, true, true, true, true, true, true, true, true, true, true, false, false, false, false, false, false, false, false] (fun s_ => [(34, s_), (35, .string (strOfNums y250)), (38, .string t253), (39, .string ((strOfNums y250) ++ t253))]) (fun s_ w' => (w'.cell? ⟨gb248, 0, none⟩ = some (.int .u8 a0_0) ∧ w'.cell? ⟨gb248, 1, none⟩ = some (.bool a0_1) ∧ w'.cell? ⟨gb248, 2, none⟩ = some (.bool a0_2) ∧ w'.cell? ⟨gb248, 3, none⟩ = some (.bool a0_3) ∧ w'.cell? ⟨gb248, 4, none⟩ = some (.int .u64 a0_4)) ∧ (Kd.R (Kd.int .u8) 5 w' w.heap.size (fun _ => True) s_ y250) ∧ (w'.heap[gb248]? = some (.cells #[.int .u8 a0_0, .bool a0_1, .bool a0_2, .bool a0_3, .int .u64 a0_4] 40 (0, 0))) ∧ (Below w.heap.size w w')) ?_ ?_
                                rotate_left
                                · intro hJ7_8_11
                                  refine join_ (σ := Value × Value) 9 #[true, true, true, true, true, true, true, true, true, true, true, false, false, true, false, false, false, false, false, false, false] (fun s_ => [(34, s_.1), (35, .string (strOfNums y250)), (40, s_.2)]) (fun s_ w' => (w'.cell? ⟨gb248, 0, none⟩ = some (.int .u8 a0_0) ∧ w'.cell? ⟨gb248, 1, none⟩ = some (.bool a0_1) ∧ w'.cell? ⟨gb248, 2, none⟩ = some (.bool a0_2) ∧ w'.cell? ⟨gb248, 3, none⟩ = some (.bool a0_3) ∧ w'.cell? ⟨gb248, 4, none⟩ = some (.int .u64 a0_4)) ∧ (Kd.R (Kd.int .u8) 5 w' w.heap.size (fun k_ => some k_ ≠ (s_.2 : Value).ownBlock) s_.1 y250) ∧ (Kd.R (Kd.int .u8) 5 w' w.heap.size (fun k_ => some k_ ≠ (s_.1 : Value).ownBlock) s_.2 y254) ∧ (w'.heap[gb248]? = some (.cells #[.int .u8 a0_0, .bool a0_1, .bool a0_2, .bool a0_3, .int .u64 a0_4] 40 (0, 0))) ∧ (Below w.heap.size w w')) ?_ ?_
                                  rotate_left
                                  · intro hJ7_8_13
                                    refine join_ (σ := Value × Value) 9 #[true, true, true, true, true, true, true, true, false, true, true, true, false, true, false, false, false, false, false, false, false] (fun s_ => [(34, s_.1), (38, .string t253), (40, s_.2)]) (fun s_ w' => (w'.cell? ⟨gb248, 0, none⟩ = some (.int .u8 a0_0) ∧ w'.cell? ⟨gb248, 1, none⟩ = some (.bool a0_1) ∧ w'.cell? ⟨gb248, 2, none⟩ = some (.bool a0_2) ∧ w'.cell? ⟨gb248, 3, none⟩ = some (.bool a0_3) ∧ w'.cell? ⟨gb248, 4, none⟩ = some (.int .u64 a0_4)) ∧ (Kd.R (Kd.int .u8) 5 w' w.heap.size (fun k_ => some k_ ≠ (s_.2 : Value).ownBlock) s_.1 y250) ∧ (Kd.R (Kd.int .u8) 5 w' w.heap.size (fun k_ => some k_ ≠ (s_.1 : Value).ownBlock) s_.2 y254) ∧ (w'.heap[gb248]? = some (.cells #[.int .u8 a0_0, .bool a0_1, .bool a0_2, .bool a0_3, .int .u64 a0_4] 40 (0, 0))) ∧ (Below w.heap.size w w')) ?_ ?_
                                    rotate_left
                                    · intro hJ7_11_13
                                      refine join_ (σ := Value × Value) 9 #[true, true, true, true, true, true, true, true, false, true, true, false, false, true, true, false, false, false, false, false, false] (fun s_ => [(34, s_.1), (40, s_.2), (41, .string (strOfNums y254))]) (fun s_ w' => (w'.cell? ⟨gb248, 0, none⟩ = some (.int .u8 a0_0) ∧ w'.cell? ⟨gb248, 1, none⟩ = some (.bool a0_1) ∧ w'.cell? ⟨gb248, 2, none⟩ = some (.bool a0_2) ∧ w'.cell? ⟨gb248, 3, none⟩ = some (.bool a0_3) ∧ w'.cell? ⟨gb248, 4, none⟩ = some (.int .u64 a0_4)) ∧ (Kd.R (Kd.int .u8) 5 w' w.heap.size (fun k_ => some k_ ≠ (s_.2 : Value).ownBlock) s_.1 y250) ∧ (Kd.R (Kd.int .u8) 5 w' w.heap.size (fun k_ => some k_ ≠ (s_.1 : Value).ownBlock) s_.2 y254) ∧ (w'.heap[gb248]? = some (.cells #[.int .u8 a0_0, .bool a0_1, .bool a0_2, .bool a0_3, .int .u64 a0_4] 40 (0, 0))) ∧ (Below w.heap.size w w')) ?_ ?_
                                      rotate_left
                                      · intro hJ7_13_14
                                        refine join_ (σ := Value) 9 #[true, true, true, true, true, true, true, false, false, true, true, true, false, true, true, false, false, false, false, false, false] (fun s_ => [(38, .string t253), (40, s_), (41, .string (strOfNums y254))]) (fun s_ w' => (w'.cell? ⟨gb248, 0, none⟩ = some (.int .u8 a0_0) ∧ w'.cell? ⟨gb248, 1, none⟩ = some (.bool a0_1) ∧ w'.cell? ⟨gb248, 2, none⟩ = some (.bool a0_2) ∧ w'.cell? ⟨gb248, 3, none⟩ = some (.bool a0_3) ∧ w'.cell? ⟨gb248, 4, none⟩ = some (.int .u64 a0_4)) ∧ (Kd.R (Kd.int .u8) 5 w' w.heap.size (fun _ => True) s_ y254) ∧ (w'.heap[gb248]? = some (.cells #[.int .u8 a0_0, .bool a0_1, .bool a0_2, .bool a0_3, .int .u64 a0_4] 40 (0, 0))) ∧ (Below w.heap.size w w')) ?_ ?_
                                        rotate_left
                                        · intro hJ11_13_14
                                          refine join_ (σ := Value) 10 #[true, true, true, true, true, true, true, true, true, true, true, false, false, false, false, false, false, false, false, false, false] (fun s_ => [(34, s_), (35, .string (strOfNums y250))]) (fun s_ w' => (w'.cell? ⟨gb248, 0, none⟩ = some (.int .u8 a0_0) ∧ w'.cell? ⟨gb248, 1, none⟩ = some (.bool a0_1) ∧ w'.cell? ⟨gb248, 2, none⟩ = some (.bool a0_2) ∧ w'.cell? ⟨gb248, 3, none⟩ = some (.bool a0_3) ∧ w'.cell? ⟨gb248, 4, none⟩ = some (.int .u64 a0_4)) ∧ (Kd.R (Kd.int .u8) 5 w' w.heap.size (fun _ => True) s_ y250) ∧ (w'.heap[gb248]? = some (.cells #[.int .u8 a0_0, .bool a0_1, .bool a0_2, .bool a0_3, .int .u64 a0_4] 40 (0, 0))) ∧ (Below w.heap.size w w')) ?_ ?_
                                          rotate_left
                                          · intro hJ7_8
                                            refine join_ (σ := Value) 10 #[true, true, true, true, true, true, true, true, false, true, true, true, false, false, false, false, false, false, false, false, false] (fun s_ => [(34, s_), (38, .string t253)]) (fun s_ w' => (w'.cell? ⟨gb248, 0, none⟩ = some (.int .u8 a0_0) ∧ w'.cell? ⟨gb248, 1, none⟩ = some (.bool a0_1) ∧ w'.cell? ⟨gb248, 2, none⟩ = some (.bool a0_2) ∧ w'.cell? ⟨gb248, 3, none⟩ = some (.bool a0_3) ∧ w'.cell? ⟨gb248, 4, none⟩ = some (.int .u64 a0_4)) ∧ (Kd.R (Kd.int .u8) 5 w' w.heap.size (fun _ => True) s_ y250) ∧ (w'.heap[gb248]? = some (.cells #[.int .u8 a0_0, .bool a0_1, .bool a0_2, .bool a0_3, .int .u64 a0_4] 40 (0, 0))) ∧ (Below w.heap.size w w')) ?_ ?_
                                            rotate_left
                                            · intro hJ7_11
                                              refine join_ (σ := Value × Value) 10 #[true, true, true, true, true, true, true, true, false, true, true, false, false, true, false, false, false, false, false, false, false] (fun s_ => [(34, s_.1), (40, s_.2)]) (fun s_ w' => (w'.cell? ⟨gb248, 0, none⟩ = some (.int .u8 a0_0) ∧ w'.cell? ⟨gb248, 1, none⟩ = some (.bool a0_1) ∧ w'.cell? ⟨gb248, 2, none⟩ = some (.bool a0_2) ∧ w'.cell? ⟨gb248, 3, none⟩ = some (.bool a0_3) ∧ w'.cell? ⟨gb248, 4, none⟩ = some (.int .u64 a0_4)) ∧ (Kd.R (Kd.int .u8) 5 w' w.heap.size (fun k_ => some k_ ≠ (s_.2 : Value).ownBlock) s_.1 y250) ∧ (Kd.R (Kd.int .u8) 5 w' w.heap.size (fun k_ => some k_ ≠ (s_.1 : Value).ownBlock) s_.2 y254) ∧ (w'.heap[gb248]? = some (.cells #[.int .u8 a0_0, .bool a0_1, .bool a0_2, .bool a0_3, .int .u64 a0_4] 40 (0, 0))) ∧ (Below w.heap.size w w')) ?_ ?_
                                              rotate_left
                                              · intro hJ7_13
                                                refine join_ (σ := Value) 10 #[true, true, true, true, true, true, true, false, false, true, true, true, false, true, false, false, false, false, false, false, false] (fun s_ => [(38, .string t253), (40, s_)]) (fun s_ w' => (w'.cell? ⟨gb248, 0, none⟩ = some (.int .u8 a0_0) ∧ w'.cell? ⟨gb248, 1, none⟩ = some (.bool a0_1) ∧ w'.cell? ⟨gb248, 2, none⟩ = some (.bool a0_2) ∧ w'.cell? ⟨gb248, 3, none⟩ = some (.bool a0_3) ∧ w'.cell? ⟨gb248, 4, none⟩ = some (.int .u64 a0_4)) ∧ (Kd.R (Kd.int .u8) 5 w' w.heap.size (fun _ => True) s_ y254) ∧ (w'.heap[gb248]? = some (.cells #[.int .u8 a0_0, .bool a0_1, .bool a0_2, .bool a0_3, .int .u64 a0_4] 40 (0, 0))) ∧ (Below w.heap.size w w')) ?_ ?_
                                                rotate_left
                                                · intro hJ11_13
                                                  refine join_ (σ := Value) 10 #[true, true, true, true, true, true, true, false, false, true, true, false, false, true, true, false, false, false, false, false, false] (fun s_ => [(40, s_), (41, .string (strOfNums y254))]) (fun s_ w' => (w'.cell? ⟨gb248, 0, none⟩ = some (.int .u8 a0_0) ∧ w'.cell? ⟨gb248, 1, none⟩ = some (.bool a0_1) ∧ w'.cell? ⟨gb248, 2, none⟩ = some (.bool a0_2) ∧ w'.cell? ⟨gb248, 3, none⟩ = some (.bool a0_3) ∧ w'.cell? ⟨gb248, 4, none⟩ = some (.int .u64 a0_4)) ∧ (Kd.R (Kd.int .u8) 5 w' w.heap.size (fun _ => True) s_ y254) ∧ (w'.heap[gb248]? = some (.cells #[.int .u8 a0_0, .bool a0_1, .bool a0_2, .bool a0_3, .int .u64 a0_4] 40 (0, 0))) ∧ (Below w.heap.size w w')) ?_ ?_
                                                  rotate_left
                                                  · intro hJ13_14
                                                    refine join_ (σ := Value) 11 #[true, true, true, true, true, true, true, true, false, true, true, false, false, false, false, false, false, false, false, false, false] (fun s_ => [(34, s_)]) (fun s_ w' => (w'.cell? ⟨gb248, 0, none⟩ = some (.int .u8 a0_0) ∧ w'.cell? ⟨gb248, 1, none⟩ = some (.bool a0_1) ∧ w'.cell? ⟨gb248, 2, none⟩ = some (.bool a0_2) ∧ w'.cell? ⟨gb248, 3, none⟩ = some (.bool a0_3) ∧ w'.cell? ⟨gb248, 4, none⟩ = some (.int .u64 a0_4)) ∧ (Kd.R (Kd.int .u8) 5 w' w.heap.size (fun _ => True) s_ y250) ∧ (w'.heap[gb248]? = some (.cells #[.int .u8 a0_0, .bool a0_1, .bool a0_2, .bool a0_3, .int .u64 a0_4] 40 (0, 0))) ∧ (Below w.heap.size w w')) ?_ ?_
                                                    rotate_left
                                                    · intro hJ7
                                                      refine join_ (σ := Unit) 11 #[true, true, true, true, true, true, true, false, false, true, true, true, false, false, false, false, false, false, false, false, false] (fun s_ => [(38, .string t253)]) (fun s_ w' => (w'.cell? ⟨gb248, 0, none⟩ = some (.int .u8 a0_0) ∧ w'.cell? ⟨gb248, 1, none⟩ = some (.bool a0_1) ∧ w'.cell? ⟨gb248, 2, none⟩ = some (.bool a0_2) ∧ w'.cell? ⟨gb248, 3, none⟩ = some (.bool a0_3) ∧ w'.cell? ⟨gb248, 4, none⟩ = some (.int .u64 a0_4)) ∧ (w'.heap[gb248]? = some (.cells #[.int .u8 a0_0, .bool a0_1, .bool a0_2, .bool a0_3, .int .u64 a0_4] 40 (0, 0))) ∧ (Below w.heap.size w w')) ?_ ?_
                                                      rotate_left
                                                      · intro hJ11
                                                        refine join_ (σ := Value) 11 #[true, true, true, true, true, true, true, false, false, true, true, false, false, true, false, false, false, false, false, false, false] (fun s_ => [(40, s_)]) (fun s_ w' => (w'.cell? ⟨gb248, 0, none⟩ = some (.int .u8 a0_0) ∧ w'.cell? ⟨gb248, 1, none⟩ = some (.bool a0_1) ∧ w'.cell? ⟨gb248, 2, none⟩ = some (.bool a0_2) ∧ w'.cell? ⟨gb248, 3, none⟩ = some (.bool a0_3) ∧ w'.cell? ⟨gb248, 4, none⟩ = some (.int .u64 a0_4)) ∧ (Kd.R (Kd.int .u8) 5 w' w.heap.size (fun _ => True) s_ y254) ∧ (w'.heap[gb248]? = some (.cells #[.int .u8 a0_0, .bool a0_1, .bool a0_2, .bool a0_3, .int .u64 a0_4] 40 (0, 0))) ∧ (Below w.heap.size w w')) ?_ ?_
                                                        rotate_left
                                                        · intro hJ13
                                                          refine three_ (i := 7) (j := 11) (k := 13) (Ni := some 34) (Nj := some 38) (Nk := some 40) #[true, true, true, true, true, true, true, true, false, true, true, false, false, false, false, false, false, false, false, false, false] #[true, true, true, true, true, true, true, false, false, true, true, true, false, false, false, false, false, false, false, false, false] #[true, true, true, true, true, true, true, false, false, true, true, false, false, true, false, false, false, false, false, false, false] rfl rfl rfl rfl rfl rfl (three_of HT_.out (by kernel_rfl)) (by decide) (by decide) (by decide) (fun K hK => ?_) (fun K hK => ?_) (fun K hK => ?_)
                                                          · skip
                                                            refine Kd.R_lit_step (Kd.int .u8) _ 5 ?hg (N := 34) ?hd (xs := ([(a0_0 * 16) % 256, (x7_15) % 256] : List Int)) (inner := [.int .u8 ((a0_0 * 16) % 256), .int .u8 ((x7_15) % 256)]) (ok := fun _ => True) (okp := fun _ => True) ?hr ?hp (fun _ hk => hk) trivial (Below.refl _ _) (Nat.le_refl _) (by simp) ?_; (case hd => rfl); (case hg => rfl); (case hr => first | (go_simp; done) | (go_simp; rfl)); (case hp => exact (Reps.one (show Kd.M (Kd.int .u8) _ _ _ ((a0_0 * 16) % 256) [.int .u8 ((a0_0 * 16) % 256)] from rfl) (Reps.one (show Kd.M (Kd.int .u8) _ _ _ ((x7_15) % 256) [.int .u8 ((x7_15) % 256)] from rfl) (Reps.none _ _))))
                                                            intro v251 w25 ho26 hb hg_ hnew_
                                                            clear hg_ hnew_
                                                            (first | rw [← Ny250.out] at ho26 | (simp only [Int.reduceToNat] at ho26; rw [← Ny250.out] at ho26))
                                                            have n0_ := Aside0.mk (Kd.R_lower ho26 (below_size (by repeat (first | (with_reducible first | exact HB.out | apply below_alloc | apply pw_below_drewN | apply below_drew1 | refine below_set ?_ GE248.out) | exact HB.out))))
                                                            have n1_ := Aside0.mk (blk_below (g := gb248) (o := .cells #[.int .u8 a0_0, .bool a0_1, .bool a0_2, .bool a0_3, .int .u64 a0_4] 40 (0, 0)) (by (with_reducible repeat (first | refine blk_drewN ?_ _ | refine blk_drew ?_ | refine blk_alloc ?_ _)); exact BK248.out) hb)
                                                            have n2_ := Aside0.mk (below_step (by repeat (first | (with_reducible first | exact HB.out | apply below_alloc | apply pw_below_drewN | apply below_drew1 | refine below_set ?_ GE248.out) | exact HB.out)) hb)
                                                            clear BK248
                                                            clear HB
                                                            have HO252 := n0_
                                                            have BK248 := n1_
                                                            have HB := n2_
                                                            clear n0_ n1_ n2_
                                                            clear hb ho26
                                                            refine hK.out _ _ ⟨(blk_cell BK248.out 0).trans rfl, (blk_cell BK248.out 1).trans rfl, (blk_cell BK248.out 2).trans rfl, (blk_cell BK248.out 3).trans rfl, (blk_cell BK248.out 4).trans rfl⟩ (fun hHeld => ?_)
                                                            clear hK K
                                                            refine norm_ (a' := ?_) ?_ ?_
                                                            rotate_left
                                                            · show Act.put _ (some 34) _ = _
                                                              simp only [Act.put, List.setIfInBounds_toArray, List.set_cons_zero, List.set_cons_succ, i64_w, i32_w]
                                                              rfl
                                                            exact norm_ (by first | (simp only [putAll, Act.put, List.setIfInBounds_toArray, List.set_cons_zero, List.set_cons_succ]; done) | (simp only [putAll, Act.put, List.setIfInBounds_toArray, List.set_cons_zero, List.set_cons_succ]; rfl)) (hJ7 (v251) _ ⟨hHeld, (by (with_reducible repeat (first | apply Kd.R_alloc | apply Kd.R_drewN | apply Kd.R_drew)); exact HO252.out), (by (with_reducible repeat (first | refine blk_drewN ?_ _ | refine blk_drew ?_ | refine blk_alloc ?_ _)); exact BK248.out), (by repeat (first | (with_reducible first | exact HB.out | apply below_alloc | apply pw_below_drewN | apply below_drew1 | refine below_set ?_ GE248.out) | exact HB.out))⟩)
                                                          · skip
                                                            refine goes_ Try.func30 (by kernel_rfl) rfl #[.int .u64 a0_4] (by rfl) rfl rfl (by (try simp only [List.map_toArray, List.map_cons, List.map_nil]); first | done | rfl | (simp only [List.length_drop, List.length_take]; rfl)) ?_
                                                            with_reducible refine (carouselref02_Bytes.calls kj15 a0_4 t253 _ A19.out).mono ?_
                                                            rintro e w25 ⟨rfl, hb⟩
                                                            refine ⟨_, rfl, ?_⟩
                                                            have n0_ := Aside0.mk (blk_below (g := gb248) (o := .cells #[.int .u8 a0_0, .bool a0_1, .bool a0_2, .bool a0_3, .int .u64 a0_4] 40 (0, 0)) (by (with_reducible repeat (first | refine blk_drewN ?_ _ | refine blk_drew ?_ | refine blk_alloc ?_ _)); exact BK248.out) hb)
                                                            have n1_ := Aside0.mk (below_step (by repeat (first | (with_reducible first | exact HB.out | apply below_alloc | apply pw_below_drewN | apply below_drew1 | refine below_set ?_ GE248.out) | exact HB.out)) hb)
                                                            clear BK248
                                                            clear HB
                                                            have BK248 := n0_
                                                            have HB := n1_
                                                            clear n0_ n1_
                                                            (try clear hb)
                                                            (try clear hb2)
                                                            (try clear hk)
                                                            (try clear hi)
                                                            refine hK.out _ _ ⟨(blk_cell BK248.out 0).trans rfl, (blk_cell BK248.out 1).trans rfl, (blk_cell BK248.out 2).trans rfl, (blk_cell BK248.out 3).trans rfl, (blk_cell BK248.out 4).trans rfl⟩ (fun hHeld => ?_)
                                                            clear hK K
                                                            refine norm_ (a' := ?_) ?_ ?_
                                                            rotate_left
                                                            · show Act.put _ (some 38) _ = _
                                                              simp only [Act.put, List.setIfInBounds_toArray, List.set_cons_zero, List.set_cons_succ, i64_w, i32_w]
                                                              rfl
                                                            exact norm_ (by first | (simp only [putAll, Act.put, List.setIfInBounds_toArray, List.set_cons_zero, List.set_cons_succ]; done) | (simp only [putAll, Act.put, List.setIfInBounds_toArray, List.set_cons_zero, List.set_cons_succ]; rfl)) (hJ11 () _ ⟨hHeld, (by (with_reducible repeat (first | refine blk_drewN ?_ _ | refine blk_drew ?_ | refine blk_alloc ?_ _)); exact BK248.out), (by repeat (first | (with_reducible first | exact HB.out | apply below_alloc | apply pw_below_drewN | apply below_drew1 | refine below_set ?_ GE248.out) | exact HB.out))⟩)
                                                          · skip
                                                            refine Kd.R_make_step (Kd.int .u8) _ 5 (by rfl) (N := 40) rfl 60 _ _ rfl 24 rfl rfl Try.underlying60 (.int .u8 0) 1 info5 rfl (by decide) (by omega) 0 (ok := fun _ => True) (okp := fun _ => True) rfl (fun _ hk => hk) trivial (by omega) (by omega) (Below.refl _ _) (Nat.le_refl _) ?_
                                                            intro v255 w25 ho26 hb hg_ hnew_
                                                            clear hg_ hnew_
                                                            (first | rw [← Ny254.out] at ho26 | (simp only [Int.reduceToNat] at ho26; rw [← Ny254.out] at ho26))
                                                            have n0_ := Aside0.mk (Kd.R_lower ho26 (below_size (by repeat (first | (with_reducible first | exact HB.out | apply below_alloc | apply pw_below_drewN | apply below_drew1 | refine below_set ?_ GE248.out) | exact HB.out))))
                                                            have n1_ := Aside0.mk (blk_below (g := gb248) (o := .cells #[.int .u8 a0_0, .bool a0_1, .bool a0_2, .bool a0_3, .int .u64 a0_4] 40 (0, 0)) (by (with_reducible repeat (first | refine blk_drewN ?_ _ | refine blk_drew ?_ | refine blk_alloc ?_ _)); exact BK248.out) hb)
                                                            have n2_ := Aside0.mk (below_step (by repeat (first | (with_reducible first | exact HB.out | apply below_alloc | apply pw_below_drewN | apply below_drew1 | refine below_set ?_ GE248.out) | exact HB.out)) hb)
                                                            clear BK248
                                                            clear HB
                                                            have HO256 := n0_
                                                            have BK248 := n1_
                                                            have HB := n2_
                                                            clear n0_ n1_ n2_
                                                            clear hb ho26
                                                            refine hK.out _ _ ⟨(blk_cell BK248.out 0).trans rfl, (blk_cell BK248.out 1).trans rfl, (blk_cell BK248.out 2).trans rfl, (blk_cell BK248.out 3).trans rfl, (blk_cell BK248.out 4).trans rfl⟩ (fun hHeld => ?_)
                                                            clear hK K
                                                            refine norm_ (a' := ?_) ?_ ?_
                                                            rotate_left
                                                            · show Act.put _ (some 40) _ = _
                                                              simp only [Act.put, List.setIfInBounds_toArray, List.set_cons_zero, List.set_cons_succ, i64_w, i32_w]
                                                              rfl
                                                            exact norm_ (by first | (simp only [putAll, Act.put, List.setIfInBounds_toArray, List.set_cons_zero, List.set_cons_succ]; done) | (simp only [putAll, Act.put, List.setIfInBounds_toArray, List.set_cons_zero, List.set_cons_succ]; rfl)) (hJ13 (v255) _ ⟨hHeld, (by (with_reducible repeat (first | apply Kd.R_alloc | apply Kd.R_drewN | apply Kd.R_drew)); exact HO256.out), (by (with_reducible repeat (first | refine blk_drewN ?_ _ | refine blk_drew ?_ | refine blk_alloc ?_ _)); exact BK248.out), (by repeat (first | (with_reducible first | exact HB.out | apply below_alloc | apply pw_below_drewN | apply below_drew1 | refine below_set ?_ GE248.out) | exact HB.out))⟩)
                                                        · skip
                                                          rintro v255 w27 ⟨hS_, h0_, h1_, h2_⟩
                                                          have n0_ : Aside0 (Kd.R (Kd.int .u8) 5 w27 w.heap.size (fun _ => True) v255 y254) := ⟨h0_⟩
                                                          have n1_ : Aside0 (w27.heap[gb248]? = some (.cells #[.int .u8 a0_0, .bool a0_1, .bool a0_2, .bool a0_3, .int .u64 a0_4] 40 (0, 0))) := ⟨h1_⟩
                                                          have n2_ : Aside0 (Below w.heap.size w w27) := ⟨h2_⟩
                                                          clear BK248
                                                          clear HB
                                                          clear h0_ h1_ h2_
                                                          have HO256 := n0_
                                                          have BK248 := n1_
                                                          have HB := n2_
                                                          clear n0_ n1_ n2_
                                                          have hHeld : w27.cell? ⟨gb248, 0, none⟩ = some (.int .u8 a0_0) ∧ w27.cell? ⟨gb248, 1, none⟩ = some (.bool a0_1) ∧ w27.cell? ⟨gb248, 2, none⟩ = some (.bool a0_2) ∧ w27.cell? ⟨gb248, 3, none⟩ = some (.bool a0_3) ∧ w27.cell? ⟨gb248, 4, none⟩ = some (.int .u64 a0_4) := hS_
                                                          refine norm_ (a' := ?_) ?_ ?_
                                                          rotate_left
                                                          · simp only [putAll, Act.put, List.setIfInBounds_toArray, List.set_cons_zero, List.set_cons_succ]
                                                            rfl
                                                          refine three_ (i := 7) (j := 11) (k := 14) (Ni := some 34) (Nj := some 38) (Nk := some 41) #[true, true, true, true, true, true, true, true, false, true, true, false, false, true, false, false, false, false, false, false, false] #[true, true, true, true, true, true, true, false, false, true, true, true, false, true, false, false, false, false, false, false, false] #[true, true, true, true, true, true, true, false, false, true, true, false, false, true, true, false, false, false, false, false, false] rfl rfl rfl rfl rfl rfl (three_of HT_.out (by kernel_rfl)) (by decide) (by decide) (by decide) (fun K hK => ?_) (fun K hK => ?_) (fun K hK => ?_)
                                                          · skip
                                                            refine Kd.R_lit_step (Kd.int .u8) _ 5 ?hg (N := 34) ?hd (xs := ([(a0_0 * 16) % 256, (x7_15) % 256] : List Int)) (inner := [.int .u8 ((a0_0 * 16) % 256), .int .u8 ((x7_15) % 256)]) (ok := fun _ => True) (okp := fun _ => True) ?hr ?hp (fun _ hk => hk) trivial (Below.refl _ _) (Nat.le_refl _) (by simp) ?_; (case hd => rfl); (case hg => rfl); (case hr => first | (go_simp; done) | (go_simp; rfl)); (case hp => exact (Reps.one (show Kd.M (Kd.int .u8) _ _ _ ((a0_0 * 16) % 256) [.int .u8 ((a0_0 * 16) % 256)] from rfl) (Reps.one (show Kd.M (Kd.int .u8) _ _ _ ((x7_15) % 256) [.int .u8 ((x7_15) % 256)] from rfl) (Reps.none _ _))))
                                                            intro v251 w28 ho29 hb hg_ hnew_
                                                            clear hg_ hnew_
                                                            (first | rw [← Ny250.out] at ho29 | (simp only [Int.reduceToNat] at ho29; rw [← Ny250.out] at ho29))
                                                            have n0_ := Aside0.mk (Kd.R_elder' (by (with_reducible repeat (first | apply Kd.R_alloc | apply Kd.R_drewN | apply Kd.R_drew)); exact HO256.out) (Kd.R_base ho29) hb)
                                                            have n1_ := Aside0.mk (Kd.R_lower (Kd.R_new' ho29 (Kd.R_lt (by (with_reducible repeat (first | apply Kd.R_alloc | apply Kd.R_drewN | apply Kd.R_drew)); exact HO256.out))) (below_size (by repeat (first | (with_reducible first | exact HB.out | apply below_alloc | apply pw_below_drewN | apply below_drew1 | refine below_set ?_ GE248.out) | exact HB.out))))
                                                            have n2_ := Aside0.mk (blk_below (g := gb248) (o := .cells #[.int .u8 a0_0, .bool a0_1, .bool a0_2, .bool a0_3, .int .u64 a0_4] 40 (0, 0)) (by (with_reducible repeat (first | refine blk_drewN ?_ _ | refine blk_drew ?_ | refine blk_alloc ?_ _)); exact BK248.out) hb)
                                                            have n3_ := Aside0.mk (below_step (by repeat (first | (with_reducible first | exact HB.out | apply below_alloc | apply pw_below_drewN | apply below_drew1 | refine below_set ?_ GE248.out) | exact HB.out)) hb)
                                                            clear HO256
                                                            clear BK248
                                                            clear HB
                                                            have HO256 := n0_
                                                            have HO252 := n1_
                                                            have BK248 := n2_
                                                            have HB := n3_
                                                            clear n0_ n1_ n2_ n3_
                                                            clear hb ho29
                                                            refine hK.out _ _ ⟨(blk_cell BK248.out 0).trans rfl, (blk_cell BK248.out 1).trans rfl, (blk_cell BK248.out 2).trans rfl, (blk_cell BK248.out 3).trans rfl, (blk_cell BK248.out 4).trans rfl⟩ (fun hHeld => ?_)
                                                            clear hK K
                                                            refine norm_ (a' := ?_) ?_ ?_
                                                            rotate_left
                                                            · show Act.put _ (some 34) _ = _
                                                              simp only [Act.put, List.setIfInBounds_toArray, List.set_cons_zero, List.set_cons_succ, i64_w, i32_w]
                                                              rfl
                                                            exact norm_ (by first | (simp only [putAll, Act.put, List.setIfInBounds_toArray, List.set_cons_zero, List.set_cons_succ]; done) | (simp only [putAll, Act.put, List.setIfInBounds_toArray, List.set_cons_zero, List.set_cons_succ]; rfl)) (hJ7_13 (v251, v255) _ ⟨hHeld, (by (with_reducible repeat (first | apply Kd.R_alloc | apply Kd.R_drewN | apply Kd.R_drew)); exact Kd.R_mono HO252.out (fun _ hk => hk.2)), (by (with_reducible repeat (first | apply Kd.R_alloc | apply Kd.R_drewN | apply Kd.R_drew)); exact Kd.R_mono HO256.out (fun _ hk => hk.2)), (by (with_reducible repeat (first | refine blk_drewN ?_ _ | refine blk_drew ?_ | refine blk_alloc ?_ _)); exact BK248.out), (by repeat (first | (with_reducible first | exact HB.out | apply below_alloc | apply pw_below_drewN | apply below_drew1 | refine below_set ?_ GE248.out) | exact HB.out))⟩)
                                                          · skip
                                                            refine goes_ Try.func30 (by kernel_rfl) rfl #[.int .u64 a0_4] (by rfl) rfl rfl (by (try simp only [List.map_toArray, List.map_cons, List.map_nil]); first | done | rfl | (simp only [List.length_drop, List.length_take]; rfl)) ?_
                                                            with_reducible refine (carouselref02_Bytes.calls kj15 a0_4 t253 _ A19.out).mono ?_
                                                            rintro e w28 ⟨rfl, hb⟩
                                                            refine ⟨_, rfl, ?_⟩
                                                            have n0_ := Aside0.mk (Kd.R_below (by (with_reducible repeat (first | apply Kd.R_alloc | apply Kd.R_drewN | apply Kd.R_drew)); exact HO256.out) hb)
                                                            have n1_ := Aside0.mk (blk_below (g := gb248) (o := .cells #[.int .u8 a0_0, .bool a0_1, .bool a0_2, .bool a0_3, .int .u64 a0_4] 40 (0, 0)) (by (with_reducible repeat (first | refine blk_drewN ?_ _ | refine blk_drew ?_ | refine blk_alloc ?_ _)); exact BK248.out) hb)
                                                            have n2_ := Aside0.mk (below_step (by repeat (first | (with_reducible first | exact HB.out | apply below_alloc | apply pw_below_drewN | apply below_drew1 | refine below_set ?_ GE248.out) | exact HB.out)) hb)
                                                            clear HO256
                                                            clear BK248
                                                            clear HB
                                                            have HO256 := n0_
                                                            have BK248 := n1_
                                                            have HB := n2_
                                                            clear n0_ n1_ n2_
                                                            (try clear hb)
                                                            (try clear hb2)
                                                            (try clear hk)
                                                            (try clear hi)
                                                            refine hK.out _ _ ⟨(blk_cell BK248.out 0).trans rfl, (blk_cell BK248.out 1).trans rfl, (blk_cell BK248.out 2).trans rfl, (blk_cell BK248.out 3).trans rfl, (blk_cell BK248.out 4).trans rfl⟩ (fun hHeld => ?_)
                                                            clear hK K
                                                            refine norm_ (a' := ?_) ?_ ?_
                                                            rotate_left
                                                            · show Act.put _ (some 38) _ = _
                                                              simp only [Act.put, List.setIfInBounds_toArray, List.set_cons_zero, List.set_cons_succ, i64_w, i32_w]
                                                              rfl
                                                            exact norm_ (by first | (simp only [putAll, Act.put, List.setIfInBounds_toArray, List.set_cons_zero, List.set_cons_succ]; done) | (simp only [putAll, Act.put, List.setIfInBounds_toArray, List.set_cons_zero, List.set_cons_succ]; rfl)) (hJ11_13 (v255) _ ⟨hHeld, (by (with_reducible repeat (first | apply Kd.R_alloc | apply Kd.R_drewN | apply Kd.R_drew)); exact HO256.out), (by (with_reducible repeat (first | refine blk_drewN ?_ _ | refine blk_drew ?_ | refine blk_alloc ?_ _)); exact BK248.out), (by repeat (first | (with_reducible first | exact HB.out | apply below_alloc | apply pw_below_drewN | apply below_drew1 | refine below_set ?_ GE248.out) | exact HB.out))⟩)
                                                          · skip
                                                            have hcv28 := own_string (P := Try.prog) Try.underlying60 Try.underlying5 Try.underlying9 (Kd.own_of_R HO256.out)
                                                            refine value_ (w1 := ?_) (v := ?_) (by rfl) rfl ?_ ?_
                                                            rotate_left 2
                                                            · go_simp
                                                              constructor
                                                              · rfl
                                                              · rfl
                                                            clear hcv28
                                                            refine hK.out _ _ ⟨(blk_cell BK248.out 0).trans rfl, (blk_cell BK248.out 1).trans rfl, (blk_cell BK248.out 2).trans rfl, (blk_cell BK248.out 3).trans rfl, (blk_cell BK248.out 4).trans rfl⟩ (fun hHeld => ?_)
                                                            clear hK K
                                                            refine norm_ (a' := ?_) ?_ ?_
                                                            rotate_left
                                                            · show Act.put _ (some 41) _ = _
                                                              simp only [Act.put, List.setIfInBounds_toArray, List.set_cons_zero, List.set_cons_succ, i64_w, i32_w]
                                                              rfl
                                                            exact norm_ (by first | (simp only [putAll, Act.put, List.setIfInBounds_toArray, List.set_cons_zero, List.set_cons_succ]; done) | (simp only [putAll, Act.put, List.setIfInBounds_toArray, List.set_cons_zero, List.set_cons_succ]; rfl)) (hJ13_14 (v255) _ ⟨hHeld, (by (with_reducible repeat (first | apply Kd.R_alloc | apply Kd.R_drewN | apply Kd.R_drew)); exact HO256.out), (by (with_reducible repeat (first | refine blk_drewN ?_ _ | refine blk_drew ?_ | refine blk_alloc ?_ _)); exact BK248.out), (by repeat (first | (with_reducible first | exact HB.out | apply below_alloc | apply pw_below_drewN | apply below_drew1 | refine below_set ?_ GE248.out) | exact HB.out))⟩)
                                                      · skip
                                                        rintro _ w26 ⟨hS_, h0_, h1_⟩
                                                        have n0_ : Aside0 (w26.heap[gb248]? = some (.cells #[.int .u8 a0_0, .bool a0_1, .bool a0_2, .bool a0_3, .int .u64 a0_4] 40 (0, 0))) := ⟨h0_⟩
                                                        have n1_ : Aside0 (Below w.heap.size w w26) := ⟨h1_⟩
                                                        clear BK248
                                                        clear HB
                                                        clear h0_ h1_
                                                        have BK248 := n0_
                                                        have HB := n1_
                                                        clear n0_ n1_
                                                        have hHeld : w26.cell? ⟨gb248, 0, none⟩ = some (.int .u8 a0_0) ∧ w26.cell? ⟨gb248, 1, none⟩ = some (.bool a0_1) ∧ w26.cell? ⟨gb248, 2, none⟩ = some (.bool a0_2) ∧ w26.cell? ⟨gb248, 3, none⟩ = some (.bool a0_3) ∧ w26.cell? ⟨gb248, 4, none⟩ = some (.int .u64 a0_4) := hS_
                                                        refine norm_ (a' := ?_) ?_ ?_
                                                        rotate_left
                                                        · simp only [putAll, Act.put, List.setIfInBounds_toArray, List.set_cons_zero, List.set_cons_succ]
                                                          rfl
                                                        refine two_ (i := 7) (j := 13) (Ni := some 34) (Nj := some 40) #[true, true, true, true, true, true, true, true, false, true, true, true, false, false, false, false, false, false, false, false, false] #[true, true, true, true, true, true, true, false, false, true, true, true, false, true, false, false, false, false, false, false, false] rfl rfl rfl rfl (two_of HT_.out (by kernel_rfl)) (by decide) (by decide) (fun K hK => ?_) (fun K hK => ?_)
                                                        · skip
                                                          refine Kd.R_lit_step (Kd.int .u8) _ 5 ?hg (N := 34) ?hd (xs := ([(a0_0 * 16) % 256, (x7_15) % 256] : List Int)) (inner := [.int .u8 ((a0_0 * 16) % 256), .int .u8 ((x7_15) % 256)]) (ok := fun _ => True) (okp := fun _ => True) ?hr ?hp (fun _ hk => hk) trivial (Below.refl _ _) (Nat.le_refl _) (by simp) ?_; (case hd => rfl); (case hg => rfl); (case hr => first | (go_simp; done) | (go_simp; rfl)); (case hp => exact (Reps.one (show Kd.M (Kd.int .u8) _ _ _ ((a0_0 * 16) % 256) [.int .u8 ((a0_0 * 16) % 256)] from rfl) (Reps.one (show Kd.M (Kd.int .u8) _ _ _ ((x7_15) % 256) [.int .u8 ((x7_15) % 256)] from rfl) (Reps.none _ _))))
                                                          intro v251 w27 ho28 hb hg_ hnew_
                                                          clear hg_ hnew_
                                                          (first | rw [← Ny250.out] at ho28 | (simp only [Int.reduceToNat] at ho28; rw [← Ny250.out] at ho28))
                                                          have n0_ := Aside0.mk (Kd.R_lower ho28 (below_size (by repeat (first | (with_reducible first | exact HB.out | apply below_alloc | apply pw_below_drewN | apply below_drew1 | refine below_set ?_ GE248.out) | exact HB.out))))
                                                          have n1_ := Aside0.mk (blk_below (g := gb248) (o := .cells #[.int .u8 a0_0, .bool a0_1, .bool a0_2, .bool a0_3, .int .u64 a0_4] 40 (0, 0)) (by (with_reducible repeat (first | refine blk_drewN ?_ _ | refine blk_drew ?_ | refine blk_alloc ?_ _)); exact BK248.out) hb)
                                                          have n2_ := Aside0.mk (below_step (by repeat (first | (with_reducible first | exact HB.out | apply below_alloc | apply pw_below_drewN | apply below_drew1 | refine below_set ?_ GE248.out) | exact HB.out)) hb)
                                                          clear BK248
                                                          clear HB
                                                          have HO252 := n0_
                                                          have BK248 := n1_
                                                          have HB := n2_
                                                          clear n0_ n1_ n2_
                                                          clear hb ho28
                                                          refine hK.out _ _ ⟨(blk_cell BK248.out 0).trans rfl, (blk_cell BK248.out 1).trans rfl, (blk_cell BK248.out 2).trans rfl, (blk_cell BK248.out 3).trans rfl, (blk_cell BK248.out 4).trans rfl⟩ (fun hHeld => ?_)
                                                          clear hK K
                                                          refine norm_ (a' := ?_) ?_ ?_
                                                          rotate_left
                                                          · show Act.put _ (some 34) _ = _
                                                            simp only [Act.put, List.setIfInBounds_toArray, List.set_cons_zero, List.set_cons_succ, i64_w, i32_w]
                                                            rfl
                                                          exact norm_ (by first | (simp only [putAll, Act.put, List.setIfInBounds_toArray, List.set_cons_zero, List.set_cons_succ]; done) | (simp only [putAll, Act.put, List.setIfInBounds_toArray, List.set_cons_zero, List.set_cons_succ]; rfl)) (hJ7_11 (v251) _ ⟨hHeld, (by (with_reducible repeat (first | apply Kd.R_alloc | apply Kd.R_drewN | apply Kd.R_drew)); exact HO252.out), (by (with_reducible repeat (first | refine blk_drewN ?_ _ | refine blk_drew ?_ | refine blk_alloc ?_ _)); exact BK248.out), (by repeat (first | (with_reducible first | exact HB.out | apply below_alloc | apply pw_below_drewN | apply below_drew1 | refine below_set ?_ GE248.out) | exact HB.out))⟩)
                                                        · skip
                                                          refine Kd.R_make_step (Kd.int .u8) _ 5 (by rfl) (N := 40) rfl 60 _ _ rfl 24 rfl rfl Try.underlying60 (.int .u8 0) 1 info5 rfl (by decide) (by omega) 0 (ok := fun _ => True) (okp := fun _ => True) rfl (fun _ hk => hk) trivial (by omega) (by omega) (Below.refl _ _) (Nat.le_refl _) ?_
                                                          intro v255 w27 ho28 hb hg_ hnew_
                                                          clear hg_ hnew_
                                                          (first | rw [← Ny254.out] at ho28 | (simp only [Int.reduceToNat] at ho28; rw [← Ny254.out] at ho28))
                                                          have n0_ := Aside0.mk (Kd.R_lower ho28 (below_size (by repeat (first | (with_reducible first | exact HB.out | apply below_alloc | apply pw_below_drewN | apply below_drew1 | refine below_set ?_ GE248.out) | exact HB.out))))
                                                          have n1_ := Aside0.mk (blk_below (g := gb248) (o := .cells #[.int .u8 a0_0, .bool a0_1, .bool a0_2, .bool a0_3, .int .u64 a0_4] 40 (0, 0)) (by (with_reducible repeat (first | refine blk_drewN ?_ _ | refine blk_drew ?_ | refine blk_alloc ?_ _)); exact BK248.out) hb)
                                                          have n2_ := Aside0.mk (below_step (by repeat (first | (with_reducible first | exact HB.out | apply below_alloc | apply pw_below_drewN | apply below_drew1 | refine below_set ?_ GE248.out) | exact HB.out)) hb)
                                                          clear BK248
                                                          clear HB
                                                          have HO256 := n0_
                                                          have BK248 := n1_
                                                          have HB := n2_
                                                          clear n0_ n1_ n2_
                                                          clear hb ho28
                                                          refine hK.out _ _ ⟨(blk_cell BK248.out 0).trans rfl, (blk_cell BK248.out 1).trans rfl, (blk_cell BK248.out 2).trans rfl, (blk_cell BK248.out 3).trans rfl, (blk_cell BK248.out 4).trans rfl⟩ (fun hHeld => ?_)
                                                          clear hK K
                                                          refine norm_ (a' := ?_) ?_ ?_
                                                          rotate_left
                                                          · show Act.put _ (some 40) _ = _
                                                            simp only [Act.put, List.setIfInBounds_toArray, List.set_cons_zero, List.set_cons_succ, i64_w, i32_w]
                                                            rfl
                                                          exact norm_ (by first | (simp only [putAll, Act.put, List.setIfInBounds_toArray, List.set_cons_zero, List.set_cons_succ]; done) | (simp only [putAll, Act.put, List.setIfInBounds_toArray, List.set_cons_zero, List.set_cons_succ]; rfl)) (hJ11_13 (v255) _ ⟨hHeld, (by (with_reducible repeat (first | apply Kd.R_alloc | apply Kd.R_drewN | apply Kd.R_drew)); exact HO256.out), (by (with_reducible repeat (first | refine blk_drewN ?_ _ | refine blk_drew ?_ | refine blk_alloc ?_ _)); exact BK248.out), (by repeat (first | (with_reducible first | exact HB.out | apply below_alloc | apply pw_below_drewN | apply below_drew1 | refine below_set ?_ GE248.out) | exact HB.out))⟩)
                                                    · skip
                                                      rintro v251 w27 ⟨hS_, h0_, h1_, h2_⟩
                                                      have n0_ : Aside0 (Kd.R (Kd.int .u8) 5 w27 w.heap.size (fun _ => True) v251 y250) := ⟨h0_⟩
                                                      have n1_ : Aside0 (w27.heap[gb248]? = some (.cells #[.int .u8 a0_0, .bool a0_1, .bool a0_2, .bool a0_3, .int .u64 a0_4] 40 (0, 0))) := ⟨h1_⟩
                                                      have n2_ : Aside0 (Below w.heap.size w w27) := ⟨h2_⟩
                                                      clear BK248
                                                      clear HB
                                                      clear h0_ h1_ h2_
                                                      have HO252 := n0_
                                                      have BK248 := n1_
                                                      have HB := n2_
                                                      clear n0_ n1_ n2_
                                                      have hHeld : w27.cell? ⟨gb248, 0, none⟩ = some (.int .u8 a0_0) ∧ w27.cell? ⟨gb248, 1, none⟩ = some (.bool a0_1) ∧ w27.cell? ⟨gb248, 2, none⟩ = some (.bool a0_2) ∧ w27.cell? ⟨gb248, 3, none⟩ = some (.bool a0_3) ∧ w27.cell? ⟨gb248, 4, none⟩ = some (.int .u64 a0_4) := hS_
                                                      refine norm_ (a' := ?_) ?_ ?_
                                                      rotate_left
                                                      · simp only [putAll, Act.put, List.setIfInBounds_toArray, List.set_cons_zero, List.set_cons_succ]
                                                        rfl
                                                      refine three_ (i := 8) (j := 11) (k := 13) (Ni := some 35) (Nj := some 38) (Nk := some 40) #[true, true, true, true, true, true, true, true, true, true, true, false, false, false, false, false, false, false, false, false, false] #[true, true, true, true, true, true, true, true, false, true, true, true, false, false, false, false, false, false, false, false, false] #[true, true, true, true, true, true, true, true, false, true, true, false, false, true, false, false, false, false, false, false, false] rfl rfl rfl rfl rfl rfl (three_of HT_.out (by kernel_rfl)) (by decide) (by decide) (by decide) (fun K hK => ?_) (fun K hK => ?_) (fun K hK => ?_)
                                                      · skip
                                                        have hcv28 := own_string (P := Try.prog) Try.underlying60 Try.underlying5 Try.underlying9 (Kd.own_of_R HO252.out)
                                                        refine value_ (w1 := ?_) (v := ?_) (by rfl) rfl ?_ ?_
                                                        rotate_left 2
                                                        · go_simp
                                                          constructor
                                                          · rfl
                                                          · rfl
                                                        clear hcv28
                                                        refine hK.out _ _ ⟨(blk_cell BK248.out 0).trans rfl, (blk_cell BK248.out 1).trans rfl, (blk_cell BK248.out 2).trans rfl, (blk_cell BK248.out 3).trans rfl, (blk_cell BK248.out 4).trans rfl⟩ (fun hHeld => ?_)
                                                        clear hK K
                                                        refine norm_ (a' := ?_) ?_ ?_
                                                        rotate_left
                                                        · show Act.put _ (some 35) _ = _
                                                          simp only [Act.put, List.setIfInBounds_toArray, List.set_cons_zero, List.set_cons_succ, i64_w, i32_w]
                                                          rfl
                                                        exact norm_ (by first | (simp only [putAll, Act.put, List.setIfInBounds_toArray, List.set_cons_zero, List.set_cons_succ]; done) | (simp only [putAll, Act.put, List.setIfInBounds_toArray, List.set_cons_zero, List.set_cons_succ]; rfl)) (hJ7_8 (v251) _ ⟨hHeld, (by (with_reducible repeat (first | apply Kd.R_alloc | apply Kd.R_drewN | apply Kd.R_drew)); exact HO252.out), (by (with_reducible repeat (first | refine blk_drewN ?_ _ | refine blk_drew ?_ | refine blk_alloc ?_ _)); exact BK248.out), (by repeat (first | (with_reducible first | exact HB.out | apply below_alloc | apply pw_below_drewN | apply below_drew1 | refine below_set ?_ GE248.out) | exact HB.out))⟩)
                                                      · skip
                                                        refine goes_ Try.func30 (by kernel_rfl) rfl #[.int .u64 a0_4] (by rfl) rfl rfl (by (try simp only [List.map_toArray, List.map_cons, List.map_nil]); first | done | rfl | (simp only [List.length_drop, List.length_take]; rfl)) ?_
                                                        with_reducible refine (carouselref02_Bytes.calls kj15 a0_4 t253 _ A19.out).mono ?_
                                                        rintro e w28 ⟨rfl, hb⟩
                                                        refine ⟨_, rfl, ?_⟩
                                                        have n0_ := Aside0.mk (Kd.R_below (by (with_reducible repeat (first | apply Kd.R_alloc | apply Kd.R_drewN | apply Kd.R_drew)); exact HO252.out) hb)
                                                        have n1_ := Aside0.mk (blk_below (g := gb248) (o := .cells #[.int .u8 a0_0, .bool a0_1, .bool a0_2, .bool a0_3, .int .u64 a0_4] 40 (0, 0)) (by (with_reducible repeat (first | refine blk_drewN ?_ _ | refine blk_drew ?_ | refine blk_alloc ?_ _)); exact BK248.out) hb)
                                                        have n2_ := Aside0.mk (below_step (by repeat (first | (with_reducible first | exact HB.out | apply below_alloc | apply pw_below_drewN | apply below_drew1 | refine below_set ?_ GE248.out) | exact HB.out)) hb)
                                                        clear HO252
                                                        clear BK248
                                                        clear HB
                                                        have HO252 := n0_
                                                        have BK248 := n1_
                                                        have HB := n2_
                                                        clear n0_ n1_ n2_
                                                        (try clear hb)
                                                        (try clear hb2)
                                                        (try clear hk)
                                                        (try clear hi)
                                                        refine hK.out _ _ ⟨(blk_cell BK248.out 0).trans rfl, (blk_cell BK248.out 1).trans rfl, (blk_cell BK248.out 2).trans rfl, (blk_cell BK248.out 3).trans rfl, (blk_cell BK248.out 4).trans rfl⟩ (fun hHeld => ?_)
                                                        clear hK K
                                                        refine norm_ (a' := ?_) ?_ ?_
                                                        rotate_left
                                                        · show Act.put _ (some 38) _ = _
                                                          simp only [Act.put, List.setIfInBounds_toArray, List.set_cons_zero, List.set_cons_succ, i64_w, i32_w]
                                                          rfl
                                                        exact norm_ (by first | (simp only [putAll, Act.put, List.setIfInBounds_toArray, List.set_cons_zero, List.set_cons_succ]; done) | (simp only [putAll, Act.put, List.setIfInBounds_toArray, List.set_cons_zero, List.set_cons_succ]; rfl)) (hJ7_11 (v251) _ ⟨hHeld, (by (with_reducible repeat (first | apply Kd.R_alloc | apply Kd.R_drewN | apply Kd.R_drew)); exact HO252.out), (by (with_reducible repeat (first | refine blk_drewN ?_ _ | refine blk_drew ?_ | refine blk_alloc ?_ _)); exact BK248.out), (by repeat (first | (with_reducible first | exact HB.out | apply below_alloc | apply pw_below_drewN | apply below_drew1 | refine below_set ?_ GE248.out) | exact HB.out))⟩)
                                                      · skip
                                                        refine Kd.R_make_step (Kd.int .u8) _ 5 (by rfl) (N := 40) rfl 60 _ _ rfl 24 rfl rfl Try.underlying60 (.int .u8 0) 1 info5 rfl (by decide) (by omega) 0 (ok := fun _ => True) (okp := fun _ => True) rfl (fun _ hk => hk) trivial (by omega) (by omega) (Below.refl _ _) (Nat.le_refl _) ?_
                                                        intro v255 w28 ho29 hb hg_ hnew_
                                                        clear hg_ hnew_
                                                        (first | rw [← Ny254.out] at ho29 | (simp only [Int.reduceToNat] at ho29; rw [← Ny254.out] at ho29))
                                                        have n0_ := Aside0.mk (Kd.R_elder' (by (with_reducible repeat (first | apply Kd.R_alloc | apply Kd.R_drewN | apply Kd.R_drew)); exact HO252.out) (Kd.R_base ho29) hb)
                                                        have n1_ := Aside0.mk (Kd.R_lower (Kd.R_new' ho29 (Kd.R_lt (by (with_reducible repeat (first | apply Kd.R_alloc | apply Kd.R_drewN | apply Kd.R_drew)); exact HO252.out))) (below_size (by repeat (first | (with_reducible first | exact HB.out | apply below_alloc | apply pw_below_drewN | apply below_drew1 | refine below_set ?_ GE248.out) | exact HB.out))))
                                                        have n2_ := Aside0.mk (blk_below (g := gb248) (o := .cells #[.int .u8 a0_0, .bool a0_1, .bool a0_2, .bool a0_3, .int .u64 a0_4] 40 (0, 0)) (by (with_reducible repeat (first | refine blk_drewN ?_ _ | refine blk_drew ?_ | refine blk_alloc ?_ _)); exact BK248.out) hb)
                                                        have n3_ := Aside0.mk (below_step (by repeat (first | (with_reducible first | exact HB.out | apply below_alloc | apply pw_below_drewN | apply below_drew1 | refine below_set ?_ GE248.out) | exact HB.out)) hb)
                                                        clear HO252
                                                        clear BK248
                                                        clear HB
                                                        have HO252 := n0_
                                                        have HO256 := n1_
                                                        have BK248 := n2_
                                                        have HB := n3_
                                                        clear n0_ n1_ n2_ n3_
                                                        clear hb ho29
                                                        refine hK.out _ _ ⟨(blk_cell BK248.out 0).trans rfl, (blk_cell BK248.out 1).trans rfl, (blk_cell BK248.out 2).trans rfl, (blk_cell BK248.out 3).trans rfl, (blk_cell BK248.out 4).trans rfl⟩ (fun hHeld => ?_)
                                                        clear hK K
                                                        refine norm_ (a' := ?_) ?_ ?_
                                                        rotate_left
                                                        · show Act.put _ (some 40) _ = _
                                                          simp only [Act.put, List.setIfInBounds_toArray, List.set_cons_zero, List.set_cons_succ, i64_w, i32_w]
                                                          rfl
                                                        exact norm_ (by first | (simp only [putAll, Act.put, List.setIfInBounds_toArray, List.set_cons_zero, List.set_cons_succ]; done) | (simp only [putAll, Act.put, List.setIfInBounds_toArray, List.set_cons_zero, List.set_cons_succ]; rfl)) (hJ7_13 (v251, v255) _ ⟨hHeld, (by (with_reducible repeat (first | apply Kd.R_alloc | apply Kd.R_drewN | apply Kd.R_drew)); exact Kd.R_mono HO252.out (fun _ hk => hk.2)), (by (with_reducible repeat (first | apply Kd.R_alloc | apply Kd.R_drewN | apply Kd.R_drew)); exact Kd.R_mono HO256.out (fun _ hk => hk.2)), (by (with_reducible repeat (first | refine blk_drewN ?_ _ | refine blk_drew ?_ | refine blk_alloc ?_ _)); exact BK248.out), (by repeat (first | (with_reducible first | exact HB.out | apply below_alloc | apply pw_below_drewN | apply below_drew1 | refine below_set ?_ GE248.out) | exact HB.out))⟩)
                                                  · skip
                                                    rintro v255 w28 ⟨hS_, h0_, h1_, h2_⟩
                                                    have n0_ : Aside0 (Kd.R (Kd.int .u8) 5 w28 w.heap.size (fun _ => True) v255 y254) := ⟨h0_⟩
                                                    have n1_ : Aside0 (w28.heap[gb248]? = some (.cells #[.int .u8 a0_0, .bool a0_1, .bool a0_2, .bool a0_3, .int .u64 a0_4] 40 (0, 0))) := ⟨h1_⟩
                                                    have n2_ : Aside0 (Below w.heap.size w w28) := ⟨h2_⟩
                                                    clear BK248
                                                    clear HB
                                                    clear h0_ h1_ h2_
                                                    have HO256 := n0_
                                                    have BK248 := n1_
                                                    have HB := n2_
                                                    clear n0_ n1_ n2_
                                                    have hHeld : w28.cell? ⟨gb248, 0, none⟩ = some (.int .u8 a0_0) ∧ w28.cell? ⟨gb248, 1, none⟩ = some (.bool a0_1) ∧ w28.cell? ⟨gb248, 2, none⟩ = some (.bool a0_2) ∧ w28.cell? ⟨gb248, 3, none⟩ = some (.bool a0_3) ∧ w28.cell? ⟨gb248, 4, none⟩ = some (.int .u64 a0_4) := hS_
                                                    refine norm_ (a' := ?_) ?_ ?_
                                                    rotate_left
                                                    · simp only [putAll, Act.put, List.setIfInBounds_toArray, List.set_cons_zero, List.set_cons_succ]
                                                      rfl
                                                    refine two_ (i := 7) (j := 11) (Ni := some 34) (Nj := some 38) #[true, true, true, true, true, true, true, true, false, true, true, false, false, true, true, false, false, false, false, false, false] #[true, true, true, true, true, true, true, false, false, true, true, true, false, true, true, false, false, false, false, false, false] rfl rfl rfl rfl (two_of HT_.out (by kernel_rfl)) (by decide) (by decide) (fun K hK => ?_) (fun K hK => ?_)
                                                    · skip
                                                      refine Kd.R_lit_step (Kd.int .u8) _ 5 ?hg (N := 34) ?hd (xs := ([(a0_0 * 16) % 256, (x7_15) % 256] : List Int)) (inner := [.int .u8 ((a0_0 * 16) % 256), .int .u8 ((x7_15) % 256)]) (ok := fun _ => True) (okp := fun _ => True) ?hr ?hp (fun _ hk => hk) trivial (Below.refl _ _) (Nat.le_refl _) (by simp) ?_; (case hd => rfl); (case hg => rfl); (case hr => first | (go_simp; done) | (go_simp; rfl)); (case hp => exact (Reps.one (show Kd.M (Kd.int .u8) _ _ _ ((a0_0 * 16) % 256) [.int .u8 ((a0_0 * 16) % 256)] from rfl) (Reps.one (show Kd.M (Kd.int .u8) _ _ _ ((x7_15) % 256) [.int .u8 ((x7_15) % 256)] from rfl) (Reps.none _ _))))
                                                      intro v251 w29 ho30 hb hg_ hnew_
                                                      clear hg_ hnew_
                                                      (first | rw [← Ny250.out] at ho30 | (simp only [Int.reduceToNat] at ho30; rw [← Ny250.out] at ho30))
                                                      have n0_ := Aside0.mk (Kd.R_elder' (by (with_reducible repeat (first | apply Kd.R_alloc | apply Kd.R_drewN | apply Kd.R_drew)); exact HO256.out) (Kd.R_base ho30) hb)
                                                      have n1_ := Aside0.mk (Kd.R_lower (Kd.R_new' ho30 (Kd.R_lt (by (with_reducible repeat (first | apply Kd.R_alloc | apply Kd.R_drewN | apply Kd.R_drew)); exact HO256.out))) (below_size (by repeat (first | (with_reducible first | exact HB.out | apply below_alloc | apply pw_below_drewN | apply below_drew1 | refine below_set ?_ GE248.out) | exact HB.out))))
                                                      have n2_ := Aside0.mk (blk_below (g := gb248) (o := .cells #[.int .u8 a0_0, .bool a0_1, .bool a0_2, .bool a0_3, .int .u64 a0_4] 40 (0, 0)) (by (with_reducible repeat (first | refine blk_drewN ?_ _ | refine blk_drew ?_ | refine blk_alloc ?_ _)); exact BK248.out) hb)
                                                      have n3_ := Aside0.mk (below_step (by repeat (first | (with_reducible first | exact HB.out | apply below_alloc | apply pw_below_drewN | apply below_drew1 | refine below_set ?_ GE248.out) | exact HB.out)) hb)
                                                      clear HO256
                                                      clear BK248
                                                      clear HB
                                                      have HO256 := n0_
                                                      have HO252 := n1_
                                                      have BK248 := n2_
                                                      have HB := n3_
                                                      clear n0_ n1_ n2_ n3_
                                                      clear hb ho30
                                                      refine hK.out _ _ ⟨(blk_cell BK248.out 0).trans rfl, (blk_cell BK248.out 1).trans rfl, (blk_cell BK248.out 2).trans rfl, (blk_cell BK248.out 3).trans rfl, (blk_cell BK248.out 4).trans rfl⟩ (fun hHeld => ?_)
                                                      clear hK K
                                                      refine norm_ (a' := ?_) ?_ ?_
                                                      rotate_left
                                                      · show Act.put _ (some 34) _ = _
                                                        simp only [Act.put, List.setIfInBounds_toArray, List.set_cons_zero, List.set_cons_succ, i64_w, i32_w]
                                                        rfl
                                                      exact norm_ (by first | (simp only [putAll, Act.put, List.setIfInBounds_toArray, List.set_cons_zero, List.set_cons_succ]; done) | (simp only [putAll, Act.put, List.setIfInBounds_toArray, List.set_cons_zero, List.set_cons_succ]; rfl)) (hJ7_13_14 (v251, v255) _ ⟨hHeld, (by (with_reducible repeat (first | apply Kd.R_alloc | apply Kd.R_drewN | apply Kd.R_drew)); exact Kd.R_mono HO252.out (fun _ hk => hk.2)), (by (with_reducible repeat (first | apply Kd.R_alloc | apply Kd.R_drewN | apply Kd.R_drew)); exact Kd.R_mono HO256.out (fun _ hk => hk.2)), (by (with_reducible repeat (first | refine blk_drewN ?_ _ | refine blk_drew ?_ | refine blk_alloc ?_ _)); exact BK248.out), (by repeat (first | (with_reducible first | exact HB.out | apply below_alloc | apply pw_below_drewN | apply below_drew1 | refine below_set ?_ GE248.out) | exact HB.out))⟩)
                                                    · skip
                                                      refine goes_ Try.func30 (by kernel_rfl) rfl #[.int .u64 a0_4] (by rfl) rfl rfl (by (try simp only [List.map_toArray, List.map_cons, List.map_nil]); first | done | rfl | (simp only [List.length_drop, List.length_take]; rfl)) ?_
                                                      with_reducible refine (carouselref02_Bytes.calls kj15 a0_4 t253 _ A19.out).mono ?_
                                                      rintro e w29 ⟨rfl, hb⟩
                                                      refine ⟨_, rfl, ?_⟩
                                                      have n0_ := Aside0.mk (Kd.R_below (by (with_reducible repeat (first | apply Kd.R_alloc | apply Kd.R_drewN | apply Kd.R_drew)); exact HO256.out) hb)
                                                      have n1_ := Aside0.mk (blk_below (g := gb248) (o := .cells #[.int .u8 a0_0, .bool a0_1, .bool a0_2, .bool a0_3, .int .u64 a0_4] 40 (0, 0)) (by (with_reducible repeat (first | refine blk_drewN ?_ _ | refine blk_drew ?_ | refine blk_alloc ?_ _)); exact BK248.out) hb)
                                                      have n2_ := Aside0.mk (below_step (by repeat (first | (with_reducible first | exact HB.out | apply below_alloc | apply pw_below_drewN | apply below_drew1 | refine below_set ?_ GE248.out) | exact HB.out)) hb)
                                                      clear HO256
                                                      clear BK248
                                                      clear HB
                                                      have HO256 := n0_
                                                      have BK248 := n1_
                                                      have HB := n2_
                                                      clear n0_ n1_ n2_
                                                      (try clear hb)
                                                      (try clear hb2)
                                                      (try clear hk)
                                                      (try clear hi)
                                                      refine hK.out _ _ ⟨(blk_cell BK248.out 0).trans rfl, (blk_cell BK248.out 1).trans rfl, (blk_cell BK248.out 2).trans rfl, (blk_cell BK248.out 3).trans rfl, (blk_cell BK248.out 4).trans rfl⟩ (fun hHeld => ?_)
                                                      clear hK K
                                                      refine norm_ (a' := ?_) ?_ ?_
                                                      rotate_left
                                                      · show Act.put _ (some 38) _ = _
                                                        simp only [Act.put, List.setIfInBounds_toArray, List.set_cons_zero, List.set_cons_succ, i64_w, i32_w]
                                                        rfl
                                                      exact norm_ (by first | (simp only [putAll, Act.put, List.setIfInBounds_toArray, List.set_cons_zero, List.set_cons_succ]; done) | (simp only [putAll, Act.put, List.setIfInBounds_toArray, List.set_cons_zero, List.set_cons_succ]; rfl)) (hJ11_13_14 (v255) _ ⟨hHeld, (by (with_reducible repeat (first | apply Kd.R_alloc | apply Kd.R_drewN | apply Kd.R_drew)); exact HO256.out), (by (with_reducible repeat (first | refine blk_drewN ?_ _ | refine blk_drew ?_ | refine blk_alloc ?_ _)); exact BK248.out), (by repeat (first | (with_reducible first | exact HB.out | apply below_alloc | apply pw_below_drewN | apply below_drew1 | refine below_set ?_ GE248.out) | exact HB.out))⟩)
                                                · skip
                                                  rintro v255 w28 ⟨hS_, h0_, h1_, h2_⟩
                                                  have n0_ : Aside0 (Kd.R (Kd.int .u8) 5 w28 w.heap.size (fun _ => True) v255 y254) := ⟨h0_⟩
                                                  have n1_ : Aside0 (w28.heap[gb248]? = some (.cells #[.int .u8 a0_0, .bool a0_1, .bool a0_2, .bool a0_3, .int .u64 a0_4] 40 (0, 0))) := ⟨h1_⟩
                                                  have n2_ : Aside0 (Below w.heap.size w w28) := ⟨h2_⟩
                                                  clear BK248
                                                  clear HB
                                                  clear h0_ h1_ h2_
                                                  have HO256 := n0_
                                                  have BK248 := n1_
                                                  have HB := n2_
                                                  clear n0_ n1_ n2_
                                                  have hHeld : w28.cell? ⟨gb248, 0, none⟩ = some (.int .u8 a0_0) ∧ w28.cell? ⟨gb248, 1, none⟩ = some (.bool a0_1) ∧ w28.cell? ⟨gb248, 2, none⟩ = some (.bool a0_2) ∧ w28.cell? ⟨gb248, 3, none⟩ = some (.bool a0_3) ∧ w28.cell? ⟨gb248, 4, none⟩ = some (.int .u64 a0_4) := hS_
                                                  refine norm_ (a' := ?_) ?_ ?_
                                                  rotate_left
                                                  · simp only [putAll, Act.put, List.setIfInBounds_toArray, List.set_cons_zero, List.set_cons_succ]
                                                    rfl
                                                  refine two_ (i := 7) (j := 14) (Ni := some 34) (Nj := some 41) #[true, true, true, true, true, true, true, true, false, true, true, true, false, true, false, false, false, false, false, false, false] #[true, true, true, true, true, true, true, false, false, true, true, true, false, true, true, false, false, false, false, false, false] rfl rfl rfl rfl (two_of HT_.out (by kernel_rfl)) (by decide) (by decide) (fun K hK => ?_) (fun K hK => ?_)
                                                  · skip
                                                    refine Kd.R_lit_step (Kd.int .u8) _ 5 ?hg (N := 34) ?hd (xs := ([(a0_0 * 16) % 256, (x7_15) % 256] : List Int)) (inner := [.int .u8 ((a0_0 * 16) % 256), .int .u8 ((x7_15) % 256)]) (ok := fun _ => True) (okp := fun _ => True) ?hr ?hp (fun _ hk => hk) trivial (Below.refl _ _) (Nat.le_refl _) (by simp) ?_; (case hd => rfl); (case hg => rfl); (case hr => first | (go_simp; done) | (go_simp; rfl)); (case hp => exact (Reps.one (show Kd.M (Kd.int .u8) _ _ _ ((a0_0 * 16) % 256) [.int .u8 ((a0_0 * 16) % 256)] from rfl) (Reps.one (show Kd.M (Kd.int .u8) _ _ _ ((x7_15) % 256) [.int .u8 ((x7_15) % 256)] from rfl) (Reps.none _ _))))
                                                    intro v251 w29 ho30 hb hg_ hnew_
                                                    clear hg_ hnew_
                                                    (first | rw [← Ny250.out] at ho30 | (simp only [Int.reduceToNat] at ho30; rw [← Ny250.out] at ho30))
                                                    have n0_ := Aside0.mk (Kd.R_elder' (by (with_reducible repeat (first | apply Kd.R_alloc | apply Kd.R_drewN | apply Kd.R_drew)); exact HO256.out) (Kd.R_base ho30) hb)
                                                    have n1_ := Aside0.mk (Kd.R_lower (Kd.R_new' ho30 (Kd.R_lt (by (with_reducible repeat (first | apply Kd.R_alloc | apply Kd.R_drewN | apply Kd.R_drew)); exact HO256.out))) (below_size (by repeat (first | (with_reducible first | exact HB.out | apply below_alloc | apply pw_below_drewN | apply below_drew1 | refine below_set ?_ GE248.out) | exact HB.out))))
                                                    have n2_ := Aside0.mk (blk_below (g := gb248) (o := .cells #[.int .u8 a0_0, .bool a0_1, .bool a0_2, .bool a0_3, .int .u64 a0_4] 40 (0, 0)) (by (with_reducible repeat (first | refine blk_drewN ?_ _ | refine blk_drew ?_ | refine blk_alloc ?_ _)); exact BK248.out) hb)
                                                    have n3_ := Aside0.mk (below_step (by repeat (first | (with_reducible first | exact HB.out | apply below_alloc | apply pw_below_drewN | apply below_drew1 | refine below_set ?_ GE248.out) | exact HB.out)) hb)
                                                    clear HO256
                                                    clear BK248
                                                    clear HB
                                                    have HO256 := n0_
                                                    have HO252 := n1_
                                                    have BK248 := n2_
                                                    have HB := n3_
                                                    clear n0_ n1_ n2_ n3_
                                                    clear hb ho30
                                                    refine hK.out _ _ ⟨(blk_cell BK248.out 0).trans rfl, (blk_cell BK248.out 1).trans rfl, (blk_cell BK248.out 2).trans rfl, (blk_cell BK248.out 3).trans rfl, (blk_cell BK248.out 4).trans rfl⟩ (fun hHeld => ?_)
                                                    clear hK K
                                                    refine norm_ (a' := ?_) ?_ ?_
                                                    rotate_left
                                                    · show Act.put _ (some 34) _ = _
                                                      simp only [Act.put, List.setIfInBounds_toArray, List.set_cons_zero, List.set_cons_succ, i64_w, i32_w]
                                                      rfl
                                                    exact norm_ (by first | (simp only [putAll, Act.put, List.setIfInBounds_toArray, List.set_cons_zero, List.set_cons_succ]; done) | (simp only [putAll, Act.put, List.setIfInBounds_toArray, List.set_cons_zero, List.set_cons_succ]; rfl)) (hJ7_11_13 (v251, v255) _ ⟨hHeld, (by (with_reducible repeat (first | apply Kd.R_alloc | apply Kd.R_drewN | apply Kd.R_drew)); exact Kd.R_mono HO252.out (fun _ hk => hk.2)), (by (with_reducible repeat (first | apply Kd.R_alloc | apply Kd.R_drewN | apply Kd.R_drew)); exact Kd.R_mono HO256.out (fun _ hk => hk.2)), (by (with_reducible repeat (first | refine blk_drewN ?_ _ | refine blk_drew ?_ | refine blk_alloc ?_ _)); exact BK248.out), (by repeat (first | (with_reducible first | exact HB.out | apply below_alloc | apply pw_below_drewN | apply below_drew1 | refine below_set ?_ GE248.out) | exact HB.out))⟩)
                                                  · skip
                                                    have hcv29 := own_string (P := Try.prog) Try.underlying60 Try.underlying5 Try.underlying9 (Kd.own_of_R HO256.out)
                                                    refine value_ (w1 := ?_) (v := ?_) (by rfl) rfl ?_ ?_
                                                    rotate_left 2
                                                    · go_simp
                                                      constructor
                                                      · rfl
                                                      · rfl
                                                    clear hcv29
                                                    refine hK.out _ _ ⟨(blk_cell BK248.out 0).trans rfl, (blk_cell BK248.out 1).trans rfl, (blk_cell BK248.out 2).trans rfl, (blk_cell BK248.out 3).trans rfl, (blk_cell BK248.out 4).trans rfl⟩ (fun hHeld => ?_)
                                                    clear hK K
                                                    refine norm_ (a' := ?_) ?_ ?_
                                                    rotate_left
                                                    · show Act.put _ (some 41) _ = _
                                                      simp only [Act.put, List.setIfInBounds_toArray, List.set_cons_zero, List.set_cons_succ, i64_w, i32_w]
                                                      rfl
                                                    exact norm_ (by first | (simp only [putAll, Act.put, List.setIfInBounds_toArray, List.set_cons_zero, List.set_cons_succ]; done) | (simp only [putAll, Act.put, List.setIfInBounds_toArray, List.set_cons_zero, List.set_cons_succ]; rfl)) (hJ11_13_14 (v255) _ ⟨hHeld, (by (with_reducible repeat (first | apply Kd.R_alloc | apply Kd.R_drewN | apply Kd.R_drew)); exact HO256.out), (by (with_reducible repeat (first | refine blk_drewN ?_ _ | refine blk_drew ?_ | refine blk_alloc ?_ _)); exact BK248.out), (by repeat (first | (with_reducible first | exact HB.out | apply below_alloc | apply pw_below_drewN | apply below_drew1 | refine below_set ?_ GE248.out) | exact HB.out))⟩)
                                              · skip
                                                rintro ⟨v251, v255⟩ w29 ⟨hS_, h0_, h1_, h2_, h3_⟩
                                                have n0_ : Aside0 (Kd.R (Kd.int .u8) 5 w29 w.heap.size (fun k_ => some k_ ≠ (v255 : Value).ownBlock) v251 y250) := ⟨h0_⟩
                                                have n1_ : Aside0 (Kd.R (Kd.int .u8) 5 w29 w.heap.size (fun k_ => some k_ ≠ (v251 : Value).ownBlock) v255 y254) := ⟨h1_⟩
                                                have n2_ : Aside0 (w29.heap[gb248]? = some (.cells #[.int .u8 a0_0, .bool a0_1, .bool a0_2, .bool a0_3, .int .u64 a0_4] 40 (0, 0))) := ⟨h2_⟩
                                                have n3_ : Aside0 (Below w.heap.size w w29) := ⟨h3_⟩
                                                clear BK248
                                                clear HB
                                                clear h0_ h1_ h2_ h3_
                                                have HO252 := n0_
                                                have HO256 := n1_
                                                have BK248 := n2_
                                                have HB := n3_
                                                clear n0_ n1_ n2_ n3_
                                                have hHeld : w29.cell? ⟨gb248, 0, none⟩ = some (.int .u8 a0_0) ∧ w29.cell? ⟨gb248, 1, none⟩ = some (.bool a0_1) ∧ w29.cell? ⟨gb248, 2, none⟩ = some (.bool a0_2) ∧ w29.cell? ⟨gb248, 3, none⟩ = some (.bool a0_3) ∧ w29.cell? ⟨gb248, 4, none⟩ = some (.int .u64 a0_4) := hS_
                                                refine norm_ (a' := ?_) ?_ ?_
                                                rotate_left
                                                · simp only [putAll, Act.put, List.setIfInBounds_toArray, List.set_cons_zero, List.set_cons_succ]
                                                  rfl
                                                refine three_ (i := 8) (j := 11) (k := 14) (Ni := some 35) (Nj := some 38) (Nk := some 41) #[true, true, true, true, true, true, true, true, true, true, true, false, false, true, false, false, false, false, false, false, false] #[true, true, true, true, true, true, true, true, false, true, true, true, false, true, false, false, false, false, false, false, false] #[true, true, true, true, true, true, true, true, false, true, true, false, false, true, true, false, false, false, false, false, false] rfl rfl rfl rfl rfl rfl (three_of HT_.out (by kernel_rfl)) (by decide) (by decide) (by decide) (fun K hK => ?_) (fun K hK => ?_) (fun K hK => ?_)
                                                · skip
                                                  have hcv30 := own_string (P := Try.prog) Try.underlying60 Try.underlying5 Try.underlying9 (Kd.own_of_R HO252.out)
                                                  refine value_ (w1 := ?_) (v := ?_) (by rfl) rfl ?_ ?_
                                                  rotate_left 2
                                                  · go_simp
                                                    constructor
                                                    · rfl
                                                    · rfl
                                                  clear hcv30
                                                  refine hK.out _ _ ⟨(blk_cell BK248.out 0).trans rfl, (blk_cell BK248.out 1).trans rfl, (blk_cell BK248.out 2).trans rfl, (blk_cell BK248.out 3).trans rfl, (blk_cell BK248.out 4).trans rfl⟩ (fun hHeld => ?_)
                                                  clear hK K
                                                  refine norm_ (a' := ?_) ?_ ?_
                                                  rotate_left
                                                  · show Act.put _ (some 35) _ = _
                                                    simp only [Act.put, List.setIfInBounds_toArray, List.set_cons_zero, List.set_cons_succ, i64_w, i32_w]
                                                    rfl
                                                  exact norm_ (by first | (simp only [putAll, Act.put, List.setIfInBounds_toArray, List.set_cons_zero, List.set_cons_succ]; done) | (simp only [putAll, Act.put, List.setIfInBounds_toArray, List.set_cons_zero, List.set_cons_succ]; rfl)) (hJ7_8_13 (v251, v255) _ ⟨hHeld, (by (with_reducible repeat (first | apply Kd.R_alloc | apply Kd.R_drewN | apply Kd.R_drew)); exact HO252.out), (by (with_reducible repeat (first | apply Kd.R_alloc | apply Kd.R_drewN | apply Kd.R_drew)); exact HO256.out), (by (with_reducible repeat (first | refine blk_drewN ?_ _ | refine blk_drew ?_ | refine blk_alloc ?_ _)); exact BK248.out), (by repeat (first | (with_reducible first | exact HB.out | apply below_alloc | apply pw_below_drewN | apply below_drew1 | refine below_set ?_ GE248.out) | exact HB.out))⟩)
                                                · skip
                                                  refine goes_ Try.func30 (by kernel_rfl) rfl #[.int .u64 a0_4] (by rfl) rfl rfl (by (try simp only [List.map_toArray, List.map_cons, List.map_nil]); first | done | rfl | (simp only [List.length_drop, List.length_take]; rfl)) ?_
                                                  with_reducible refine (carouselref02_Bytes.calls kj15 a0_4 t253 _ A19.out).mono ?_
                                                  rintro e w30 ⟨rfl, hb⟩
                                                  refine ⟨_, rfl, ?_⟩
                                                  have n0_ := Aside0.mk (Kd.R_below (by (with_reducible repeat (first | apply Kd.R_alloc | apply Kd.R_drewN | apply Kd.R_drew)); exact HO252.out) hb)
                                                  have n1_ := Aside0.mk (Kd.R_below (by (with_reducible repeat (first | apply Kd.R_alloc | apply Kd.R_drewN | apply Kd.R_drew)); exact HO256.out) hb)
                                                  have n2_ := Aside0.mk (blk_below (g := gb248) (o := .cells #[.int .u8 a0_0, .bool a0_1, .bool a0_2, .bool a0_3, .int .u64 a0_4] 40 (0, 0)) (by (with_reducible repeat (first | refine blk_drewN ?_ _ | refine blk_drew ?_ | refine blk_alloc ?_ _)); exact BK248.out) hb)
                                                  have n3_ := Aside0.mk (below_step (by repeat (first | (with_reducible first | exact HB.out | apply below_alloc | apply pw_below_drewN | apply below_drew1 | refine below_set ?_ GE248.out) | exact HB.out)) hb)
                                                  clear HO252
                                                  clear HO256
                                                  clear BK248
                                                  clear HB
                                                  have HO252 := n0_
                                                  have HO256 := n1_
                                                  have BK248 := n2_
                                                  have HB := n3_
                                                  clear n0_ n1_ n2_ n3_
                                                  (try clear hb)
                                                  (try clear hb2)
                                                  (try clear hk)
                                                  (try clear hi)
                                                  refine hK.out _ _ ⟨(blk_cell BK248.out 0).trans rfl, (blk_cell BK248.out 1).trans rfl, (blk_cell BK248.out 2).trans rfl, (blk_cell BK248.out 3).trans rfl, (blk_cell BK248.out 4).trans rfl⟩ (fun hHeld => ?_)
                                                  clear hK K
                                                  refine norm_ (a' := ?_) ?_ ?_
                                                  rotate_left
                                                  · show Act.put _ (some 38) _ = _
                                                    simp only [Act.put, List.setIfInBounds_toArray, List.set_cons_zero, List.set_cons_succ, i64_w, i32_w]
                                                    rfl
                                                  exact norm_ (by first | (simp only [putAll, Act.put, List.setIfInBounds_toArray, List.set_cons_zero, List.set_cons_succ]; done) | (simp only [putAll, Act.put, List.setIfInBounds_toArray, List.set_cons_zero, List.set_cons_succ]; rfl)) (hJ7_11_13 (v251, v255) _ ⟨hHeld, (by (with_reducible repeat (first | apply Kd.R_alloc | apply Kd.R_drewN | apply Kd.R_drew)); exact HO252.out), (by (with_reducible repeat (first | apply Kd.R_alloc | apply Kd.R_drewN | apply Kd.R_drew)); exact HO256.out), (by (with_reducible repeat (first | refine blk_drewN ?_ _ | refine blk_drew ?_ | refine blk_alloc ?_ _)); exact BK248.out), (by repeat (first | (with_reducible first | exact HB.out | apply below_alloc | apply pw_below_drewN | apply below_drew1 | refine below_set ?_ GE248.out) | exact HB.out))⟩)
                                                · skip
                                                  have hcv30 := own_string (P := Try.prog) Try.underlying60 Try.underlying5 Try.underlying9 (Kd.own_of_R HO256.out)
                                                  refine value_ (w1 := ?_) (v := ?_) (by rfl) rfl ?_ ?_
                                                  rotate_left 2
                                                  · go_simp
                                                    constructor
                                                    · rfl
                                                    · rfl
                                                  clear hcv30
                                                  refine hK.out _ _ ⟨(blk_cell BK248.out 0).trans rfl, (blk_cell BK248.out 1).trans rfl, (blk_cell BK248.out 2).trans rfl, (blk_cell BK248.out 3).trans rfl, (blk_cell BK248.out 4).trans rfl⟩ (fun hHeld => ?_)
                                                  clear hK K
                                                  refine norm_ (a' := ?_) ?_ ?_
                                                  rotate_left
                                                  · show Act.put _ (some 41) _ = _
                                                    simp only [Act.put, List.setIfInBounds_toArray, List.set_cons_zero, List.set_cons_succ, i64_w, i32_w]
                                                    rfl
                                                  exact norm_ (by first | (simp only [putAll, Act.put, List.setIfInBounds_toArray, List.set_cons_zero, List.set_cons_succ]; done) | (simp only [putAll, Act.put, List.setIfInBounds_toArray, List.set_cons_zero, List.set_cons_succ]; rfl)) (hJ7_13_14 (v251, v255) _ ⟨hHeld, (by (with_reducible repeat (first | apply Kd.R_alloc | apply Kd.R_drewN | apply Kd.R_drew)); exact HO252.out), (by (with_reducible repeat (first | apply Kd.R_alloc | apply Kd.R_drewN | apply Kd.R_drew)); exact HO256.out), (by (with_reducible repeat (first | refine blk_drewN ?_ _ | refine blk_drew ?_ | refine blk_alloc ?_ _)); exact BK248.out), (by repeat (first | (with_reducible first | exact HB.out | apply below_alloc | apply pw_below_drewN | apply below_drew1 | refine below_set ?_ GE248.out) | exact HB.out))⟩)
                                            · skip
                                              rintro v251 w28 ⟨hS_, h0_, h1_, h2_⟩
                                              have n0_ : Aside0 (Kd.R (Kd.int .u8) 5 w28 w.heap.size (fun _ => True) v251 y250) := ⟨h0_⟩
                                              have n1_ : Aside0 (w28.heap[gb248]? = some (.cells #[.int .u8 a0_0, .bool a0_1, .bool a0_2, .bool a0_3, .int .u64 a0_4] 40 (0, 0))) := ⟨h1_⟩
                                              have n2_ : Aside0 (Below w.heap.size w w28) := ⟨h2_⟩
                                              clear BK248
                                              clear HB
                                              clear h0_ h1_ h2_
                                              have HO252 := n0_
                                              have BK248 := n1_
                                              have HB := n2_
                                              clear n0_ n1_ n2_
                                              have hHeld : w28.cell? ⟨gb248, 0, none⟩ = some (.int .u8 a0_0) ∧ w28.cell? ⟨gb248, 1, none⟩ = some (.bool a0_1) ∧ w28.cell? ⟨gb248, 2, none⟩ = some (.bool a0_2) ∧ w28.cell? ⟨gb248, 3, none⟩ = some (.bool a0_3) ∧ w28.cell? ⟨gb248, 4, none⟩ = some (.int .u64 a0_4) := hS_
                                              refine norm_ (a' := ?_) ?_ ?_
                                              rotate_left
                                              · simp only [putAll, Act.put, List.setIfInBounds_toArray, List.set_cons_zero, List.set_cons_succ]
                                                rfl
                                              refine two_ (i := 8) (j := 13) (Ni := some 35) (Nj := some 40) #[true, true, true, true, true, true, true, true, true, true, true, true, false, false, false, false, false, false, false, false, false] #[true, true, true, true, true, true, true, true, false, true, true, true, false, true, false, false, false, false, false, false, false] rfl rfl rfl rfl (two_of HT_.out (by kernel_rfl)) (by decide) (by decide) (fun K hK => ?_) (fun K hK => ?_)
                                              · skip
                                                have hcv29 := own_string (P := Try.prog) Try.underlying60 Try.underlying5 Try.underlying9 (Kd.own_of_R HO252.out)
                                                refine value_ (w1 := ?_) (v := ?_) (by rfl) rfl ?_ ?_
                                                rotate_left 2
                                                · go_simp
                                                  constructor
                                                  · rfl
                                                  · rfl
                                                clear hcv29
                                                refine hK.out _ _ ⟨(blk_cell BK248.out 0).trans rfl, (blk_cell BK248.out 1).trans rfl, (blk_cell BK248.out 2).trans rfl, (blk_cell BK248.out 3).trans rfl, (blk_cell BK248.out 4).trans rfl⟩ (fun hHeld => ?_)
                                                clear hK K
                                                refine norm_ (a' := ?_) ?_ ?_
                                                rotate_left
                                                · show Act.put _ (some 35) _ = _
                                                  simp only [Act.put, List.setIfInBounds_toArray, List.set_cons_zero, List.set_cons_succ, i64_w, i32_w]
                                                  rfl
                                                refine pure_ (i := 12) (N := some 39) (v := ?_) (a' := ?_) #[true, true, true, true, true, true, true, true, true, true, true, true, true, false, false, false, false, false, false, false, false] rfl rfl (any_of HT_.out (by kernel_rfl)) (fun _ _ _ h => h) (Or.inl ⟨by rfl, ?_⟩) ?_ ?_
                                                rotate_left
                                                · intro w'
                                                  go_simp
                                                  with_reducible rfl
                                                rotate_left
                                                · simp only [Act.put, List.setIfInBounds_toArray, List.set_cons_zero, List.set_cons_succ, i64_w, i32_w]
                                                  rfl
                                                exact norm_ (by first | (simp only [putAll, Act.put, List.setIfInBounds_toArray, List.set_cons_zero, List.set_cons_succ]; done) | (simp only [putAll, Act.put, List.setIfInBounds_toArray, List.set_cons_zero, List.set_cons_succ]; rfl)) (hJ7_8_11 (v251) _ ⟨hHeld, (by (with_reducible repeat (first | apply Kd.R_alloc | apply Kd.R_drewN | apply Kd.R_drew)); exact HO252.out), (by (with_reducible repeat (first | refine blk_drewN ?_ _ | refine blk_drew ?_ | refine blk_alloc ?_ _)); exact BK248.out), (by repeat (first | (with_reducible first | exact HB.out | apply below_alloc | apply pw_below_drewN | apply below_drew1 | refine below_set ?_ GE248.out) | exact HB.out))⟩)
                                              · skip
                                                refine Kd.R_make_step (Kd.int .u8) _ 5 (by rfl) (N := 40) rfl 60 _ _ rfl 24 rfl rfl Try.underlying60 (.int .u8 0) 1 info5 rfl (by decide) (by omega) 0 (ok := fun _ => True) (okp := fun _ => True) rfl (fun _ hk => hk) trivial (by omega) (by omega) (Below.refl _ _) (Nat.le_refl _) ?_
                                                intro v255 w29 ho30 hb hg_ hnew_
                                                clear hg_ hnew_
                                                (first | rw [← Ny254.out] at ho30 | (simp only [Int.reduceToNat] at ho30; rw [← Ny254.out] at ho30))
                                                have n0_ := Aside0.mk (Kd.R_elder' (by (with_reducible repeat (first | apply Kd.R_alloc | apply Kd.R_drewN | apply Kd.R_drew)); exact HO252.out) (Kd.R_base ho30) hb)
                                                have n1_ := Aside0.mk (Kd.R_lower (Kd.R_new' ho30 (Kd.R_lt (by (with_reducible repeat (first | apply Kd.R_alloc | apply Kd.R_drewN | apply Kd.R_drew)); exact HO252.out))) (below_size (by repeat (first | (with_reducible first | exact HB.out | apply below_alloc | apply pw_below_drewN | apply below_drew1 | refine below_set ?_ GE248.out) | exact HB.out))))
                                                have n2_ := Aside0.mk (blk_below (g := gb248) (o := .cells #[.int .u8 a0_0, .bool a0_1, .bool a0_2, .bool a0_3, .int .u64 a0_4] 40 (0, 0)) (by (with_reducible repeat (first | refine blk_drewN ?_ _ | refine blk_drew ?_ | refine blk_alloc ?_ _)); exact BK248.out) hb)
                                                have n3_ := Aside0.mk (below_step (by repeat (first | (with_reducible first | exact HB.out | apply below_alloc | apply pw_below_drewN | apply below_drew1 | refine below_set ?_ GE248.out) | exact HB.out)) hb)
                                                clear HO252
                                                clear BK248
                                                clear HB
                                                have HO252 := n0_
                                                have HO256 := n1_
                                                have BK248 := n2_
                                                have HB := n3_
                                                clear n0_ n1_ n2_ n3_
                                                clear hb ho30
                                                refine hK.out _ _ ⟨(blk_cell BK248.out 0).trans rfl, (blk_cell BK248.out 1).trans rfl, (blk_cell BK248.out 2).trans rfl, (blk_cell BK248.out 3).trans rfl, (blk_cell BK248.out 4).trans rfl⟩ (fun hHeld => ?_)
                                                clear hK K
                                                refine norm_ (a' := ?_) ?_ ?_
                                                rotate_left
                                                · show Act.put _ (some 40) _ = _
                                                  simp only [Act.put, List.setIfInBounds_toArray, List.set_cons_zero, List.set_cons_succ, i64_w, i32_w]
                                                  rfl
                                                exact norm_ (by first | (simp only [putAll, Act.put, List.setIfInBounds_toArray, List.set_cons_zero, List.set_cons_succ]; done) | (simp only [putAll, Act.put, List.setIfInBounds_toArray, List.set_cons_zero, List.set_cons_succ]; rfl)) (hJ7_11_13 (v251, v255) _ ⟨hHeld, (by (with_reducible repeat (first | apply Kd.R_alloc | apply Kd.R_drewN | apply Kd.R_drew)); exact Kd.R_mono HO252.out (fun _ hk => hk.2)), (by (with_reducible repeat (first | apply Kd.R_alloc | apply Kd.R_drewN | apply Kd.R_drew)); exact Kd.R_mono HO256.out (fun _ hk => hk.2)), (by (with_reducible repeat (first | refine blk_drewN ?_ _ | refine blk_drew ?_ | refine blk_alloc ?_ _)); exact BK248.out), (by repeat (first | (with_reducible first | exact HB.out | apply below_alloc | apply pw_below_drewN | apply below_drew1 | refine below_set ?_ GE248.out) | exact HB.out))⟩)
                                          · skip
                                            rintro v251 w28 ⟨hS_, h0_, h1_, h2_⟩
                                            have n0_ : Aside0 (Kd.R (Kd.int .u8) 5 w28 w.heap.size (fun _ => True) v251 y250) := ⟨h0_⟩
                                            have n1_ : Aside0 (w28.heap[gb248]? = some (.cells #[.int .u8 a0_0, .bool a0_1, .bool a0_2, .bool a0_3, .int .u64 a0_4] 40 (0, 0))) := ⟨h1_⟩
                                            have n2_ : Aside0 (Below w.heap.size w w28) := ⟨h2_⟩
                                            clear BK248
                                            clear HB
                                            clear h0_ h1_ h2_
                                            have HO252 := n0_
                                            have BK248 := n1_
                                            have HB := n2_
                                            clear n0_ n1_ n2_
                                            have hHeld : w28.cell? ⟨gb248, 0, none⟩ = some (.int .u8 a0_0) ∧ w28.cell? ⟨gb248, 1, none⟩ = some (.bool a0_1) ∧ w28.cell? ⟨gb248, 2, none⟩ = some (.bool a0_2) ∧ w28.cell? ⟨gb248, 3, none⟩ = some (.bool a0_3) ∧ w28.cell? ⟨gb248, 4, none⟩ = some (.int .u64 a0_4) := hS_
                                            refine norm_ (a' := ?_) ?_ ?_
                                            rotate_left
                                            · simp only [putAll, Act.put, List.setIfInBounds_toArray, List.set_cons_zero, List.set_cons_succ]
                                              rfl
                                            refine two_ (i := 11) (j := 13) (Ni := some 38) (Nj := some 40) #[true, true, true, true, true, true, true, true, true, true, true, true, false, false, false, false, false, false, false, false, false] #[true, true, true, true, true, true, true, true, true, true, true, false, false, true, false, false, false, false, false, false, false] rfl rfl rfl rfl (two_of HT_.out (by kernel_rfl)) (by decide) (by decide) (fun K hK => ?_) (fun K hK => ?_)
                                            · skip
                                              refine goes_ Try.func30 (by kernel_rfl) rfl #[.int .u64 a0_4] (by rfl) rfl rfl (by (try simp only [List.map_toArray, List.map_cons, List.map_nil]); first | done | rfl | (simp only [List.length_drop, List.length_take]; rfl)) ?_
                                              with_reducible refine (carouselref02_Bytes.calls kj15 a0_4 t253 _ A19.out).mono ?_
                                              rintro e w29 ⟨rfl, hb⟩
                                              refine ⟨_, rfl, ?_⟩
                                              have n0_ := Aside0.mk (Kd.R_below (by (with_reducible repeat (first | apply Kd.R_alloc | apply Kd.R_drewN | apply Kd.R_drew)); exact HO252.out) hb)
                                              have n1_ := Aside0.mk (blk_below (g := gb248) (o := .cells #[.int .u8 a0_0, .bool a0_1, .bool a0_2, .bool a0_3, .int .u64 a0_4] 40 (0, 0)) (by (with_reducible repeat (first | refine blk_drewN ?_ _ | refine blk_drew ?_ | refine blk_alloc ?_ _)); exact BK248.out) hb)
                                              have n2_ := Aside0.mk (below_step (by repeat (first | (with_reducible first | exact HB.out | apply below_alloc | apply pw_below_drewN | apply below_drew1 | refine below_set ?_ GE248.out) | exact HB.out)) hb)
                                              clear HO252
                                              clear BK248
                                              clear HB
                                              have HO252 := n0_
                                              have BK248 := n1_
                                              have HB := n2_
                                              clear n0_ n1_ n2_
                                              (try clear hb)
                                              (try clear hb2)
                                              (try clear hk)
                                              (try clear hi)
                                              refine hK.out _ _ ⟨(blk_cell BK248.out 0).trans rfl, (blk_cell BK248.out 1).trans rfl, (blk_cell BK248.out 2).trans rfl, (blk_cell BK248.out 3).trans rfl, (blk_cell BK248.out 4).trans rfl⟩ (fun hHeld => ?_)
                                              clear hK K
                                              refine norm_ (a' := ?_) ?_ ?_
                                              rotate_left
                                              · show Act.put _ (some 38) _ = _
                                                simp only [Act.put, List.setIfInBounds_toArray, List.set_cons_zero, List.set_cons_succ, i64_w, i32_w]
                                                rfl
                                              refine pure_ (i := 12) (N := some 39) (v := ?_) (a' := ?_) #[true, true, true, true, true, true, true, true, true, true, true, true, true, false, false, false, false, false, false, false, false] rfl rfl (any_of HT_.out (by kernel_rfl)) (fun _ _ _ h => h) (Or.inl ⟨by rfl, ?_⟩) ?_ ?_
                                              rotate_left
                                              · intro w'
                                                go_simp
                                                with_reducible rfl
                                              rotate_left
                                              · simp only [Act.put, List.setIfInBounds_toArray, List.set_cons_zero, List.set_cons_succ, i64_w, i32_w]
                                                rfl
                                              exact norm_ (by first | (simp only [putAll, Act.put, List.setIfInBounds_toArray, List.set_cons_zero, List.set_cons_succ]; done) | (simp only [putAll, Act.put, List.setIfInBounds_toArray, List.set_cons_zero, List.set_cons_succ]; rfl)) (hJ7_8_11 (v251) _ ⟨hHeld, (by (with_reducible repeat (first | apply Kd.R_alloc | apply Kd.R_drewN | apply Kd.R_drew)); exact HO252.out), (by (with_reducible repeat (first | refine blk_drewN ?_ _ | refine blk_drew ?_ | refine blk_alloc ?_ _)); exact BK248.out), (by repeat (first | (with_reducible first | exact HB.out | apply below_alloc | apply pw_below_drewN | apply below_drew1 | refine below_set ?_ GE248.out) | exact HB.out))⟩)
                                            · skip
                                              refine Kd.R_make_step (Kd.int .u8) _ 5 (by rfl) (N := 40) rfl 60 _ _ rfl 24 rfl rfl Try.underlying60 (.int .u8 0) 1 info5 rfl (by decide) (by omega) 0 (ok := fun _ => True) (okp := fun _ => True) rfl (fun _ hk => hk) trivial (by omega) (by omega) (Below.refl _ _) (Nat.le_refl _) ?_
                                              intro v255 w29 ho30 hb hg_ hnew_
                                              clear hg_ hnew_
                                              (first | rw [← Ny254.out] at ho30 | (simp only [Int.reduceToNat] at ho30; rw [← Ny254.out] at ho30))
                                              have n0_ := Aside0.mk (Kd.R_elder' (by (with_reducible repeat (first | apply Kd.R_alloc | apply Kd.R_drewN | apply Kd.R_drew)); exact HO252.out) (Kd.R_base ho30) hb)
                                              have n1_ := Aside0.mk (Kd.R_lower (Kd.R_new' ho30 (Kd.R_lt (by (with_reducible repeat (first | apply Kd.R_alloc | apply Kd.R_drewN | apply Kd.R_drew)); exact HO252.out))) (below_size (by repeat (first | (with_reducible first | exact HB.out | apply below_alloc | apply pw_below_drewN | apply below_drew1 | refine below_set ?_ GE248.out) | exact HB.out))))
                                              have n2_ := Aside0.mk (blk_below (g := gb248) (o := .cells #[.int .u8 a0_0, .bool a0_1, .bool a0_2, .bool a0_3, .int .u64 a0_4] 40 (0, 0)) (by (with_reducible repeat (first | refine blk_drewN ?_ _ | refine blk_drew ?_ | refine blk_alloc ?_ _)); exact BK248.out) hb)
                                              have n3_ := Aside0.mk (below_step (by repeat (first | (with_reducible first | exact HB.out | apply below_alloc | apply pw_below_drewN | apply below_drew1 | refine below_set ?_ GE248.out) | exact HB.out)) hb)
                                              clear HO252
                                              clear BK248
                                              clear HB
                                              have HO252 := n0_
                                              have HO256 := n1_
                                              have BK248 := n2_
                                              have HB := n3_
                                              clear n0_ n1_ n2_ n3_
                                              clear hb ho30
                                              refine hK.out _ _ ⟨(blk_cell BK248.out 0).trans rfl, (blk_cell BK248.out 1).trans rfl, (blk_cell BK248.out 2).trans rfl, (blk_cell BK248.out 3).trans rfl, (blk_cell BK248.out 4).trans rfl⟩ (fun hHeld => ?_)
                                              clear hK K
                                              refine norm_ (a' := ?_) ?_ ?_
                                              rotate_left
                                              · show Act.put _ (some 40) _ = _
                                                simp only [Act.put, List.setIfInBounds_toArray, List.set_cons_zero, List.set_cons_succ, i64_w, i32_w]
                                                rfl
                                              exact norm_ (by first | (simp only [putAll, Act.put, List.setIfInBounds_toArray, List.set_cons_zero, List.set_cons_succ]; done) | (simp only [putAll, Act.put, List.setIfInBounds_toArray, List.set_cons_zero, List.set_cons_succ]; rfl)) (hJ7_8_13 (v251, v255) _ ⟨hHeld, (by (with_reducible repeat (first | apply Kd.R_alloc | apply Kd.R_drewN | apply Kd.R_drew)); exact Kd.R_mono HO252.out (fun _ hk => hk.2)), (by (with_reducible repeat (first | apply Kd.R_alloc | apply Kd.R_drewN | apply Kd.R_drew)); exact Kd.R_mono HO256.out (fun _ hk => hk.2)), (by (with_reducible repeat (first | refine blk_drewN ?_ _ | refine blk_drew ?_ | refine blk_alloc ?_ _)); exact BK248.out), (by repeat (first | (with_reducible first | exact HB.out | apply below_alloc | apply pw_below_drewN | apply below_drew1 | refine below_set ?_ GE248.out) | exact HB.out))⟩)
                                        · skip
                                          rintro v255 w29 ⟨hS_, h0_, h1_, h2_⟩
                                          have n0_ : Aside0 (Kd.R (Kd.int .u8) 5 w29 w.heap.size (fun _ => True) v255 y254) := ⟨h0_⟩
                                          have n1_ : Aside0 (w29.heap[gb248]? = some (.cells #[.int .u8 a0_0, .bool a0_1, .bool a0_2, .bool a0_3, .int .u64 a0_4] 40 (0, 0))) := ⟨h1_⟩
                                          have n2_ : Aside0 (Below w.heap.size w w29) := ⟨h2_⟩
                                          clear BK248
                                          clear HB
                                          clear h0_ h1_ h2_
                                          have HO256 := n0_
                                          have BK248 := n1_
                                          have HB := n2_
                                          clear n0_ n1_ n2_
                                          have hHeld : w29.cell? ⟨gb248, 0, none⟩ = some (.int .u8 a0_0) ∧ w29.cell? ⟨gb248, 1, none⟩ = some (.bool a0_1) ∧ w29.cell? ⟨gb248, 2, none⟩ = some (.bool a0_2) ∧ w29.cell? ⟨gb248, 3, none⟩ = some (.bool a0_3) ∧ w29.cell? ⟨gb248, 4, none⟩ = some (.int .u64 a0_4) := hS_
                                          refine norm_ (a' := ?_) ?_ ?_
                                          rotate_left
                                          · simp only [putAll, Act.put, List.setIfInBounds_toArray, List.set_cons_zero, List.set_cons_succ]
                                            rfl
                                          refine one_ (i := 7) (N := some 34) #[true, true, true, true, true, true, true, true, false, true, true, true, false, true, true, false, false, false, false, false, false] rfl rfl (one_of HT_.out (by kernel_rfl)) (by decide) (fun K hK => ?_)
                                          refine Kd.R_lit_step (Kd.int .u8) _ 5 ?hg (N := 34) ?hd (xs := ([(a0_0 * 16) % 256, (x7_15) % 256] : List Int)) (inner := [.int .u8 ((a0_0 * 16) % 256), .int .u8 ((x7_15) % 256)]) (ok := fun _ => True) (okp := fun _ => True) ?hr ?hp (fun _ hk => hk) trivial (Below.refl _ _) (Nat.le_refl _) (by simp) ?_; (case hd => rfl); (case hg => rfl); (case hr => first | (go_simp; done) | (go_simp; rfl)); (case hp => exact (Reps.one (show Kd.M (Kd.int .u8) _ _ _ ((a0_0 * 16) % 256) [.int .u8 ((a0_0 * 16) % 256)] from rfl) (Reps.one (show Kd.M (Kd.int .u8) _ _ _ ((x7_15) % 256) [.int .u8 ((x7_15) % 256)] from rfl) (Reps.none _ _))))
                                          intro v251 w30 ho31 hb hg_ hnew_
                                          clear hg_ hnew_
                                          (first | rw [← Ny250.out] at ho31 | (simp only [Int.reduceToNat] at ho31; rw [← Ny250.out] at ho31))
                                          have n0_ := Aside0.mk (Kd.R_elder' (by (with_reducible repeat (first | apply Kd.R_alloc | apply Kd.R_drewN | apply Kd.R_drew)); exact HO256.out) (Kd.R_base ho31) hb)
                                          have n1_ := Aside0.mk (Kd.R_lower (Kd.R_new' ho31 (Kd.R_lt (by (with_reducible repeat (first | apply Kd.R_alloc | apply Kd.R_drewN | apply Kd.R_drew)); exact HO256.out))) (below_size (by repeat (first | (with_reducible first | exact HB.out | apply below_alloc | apply pw_below_drewN | apply below_drew1 | refine below_set ?_ GE248.out) | exact HB.out))))
                                          have n2_ := Aside0.mk (blk_below (g := gb248) (o := .cells #[.int .u8 a0_0, .bool a0_1, .bool a0_2, .bool a0_3, .int .u64 a0_4] 40 (0, 0)) (by (with_reducible repeat (first | refine blk_drewN ?_ _ | refine blk_drew ?_ | refine blk_alloc ?_ _)); exact BK248.out) hb)
                                          have n3_ := Aside0.mk (below_step (by repeat (first | (with_reducible first | exact HB.out | apply below_alloc | apply pw_below_drewN | apply below_drew1 | refine below_set ?_ GE248.out) | exact HB.out)) hb)
                                          clear HO256
                                          clear BK248
                                          clear HB
                                          have HO256 := n0_
                                          have HO252 := n1_
                                          have BK248 := n2_
                                          have HB := n3_
                                          clear n0_ n1_ n2_ n3_
                                          clear hb ho31
                                          refine hK.out _ _ ⟨(blk_cell BK248.out 0).trans rfl, (blk_cell BK248.out 1).trans rfl, (blk_cell BK248.out 2).trans rfl, (blk_cell BK248.out 3).trans rfl, (blk_cell BK248.out 4).trans rfl⟩ (fun hHeld => ?_)
                                          clear hK K
                                          refine norm_ (a' := ?_) ?_ ?_
                                          rotate_left
                                          · show Act.put _ (some 34) _ = _
                                            simp only [Act.put, List.setIfInBounds_toArray, List.set_cons_zero, List.set_cons_succ, i64_w, i32_w]
                                            rfl
                                          exact norm_ (by first | (simp only [putAll, Act.put, List.setIfInBounds_toArray, List.set_cons_zero, List.set_cons_succ]; done) | (simp only [putAll, Act.put, List.setIfInBounds_toArray, List.set_cons_zero, List.set_cons_succ]; rfl)) (hJ7_11_13_14 (v251, v255) _ ⟨hHeld, (by (with_reducible repeat (first | apply Kd.R_alloc | apply Kd.R_drewN | apply Kd.R_drew)); exact Kd.R_mono HO252.out (fun _ hk => hk.2)), (by (with_reducible repeat (first | apply Kd.R_alloc | apply Kd.R_drewN | apply Kd.R_drew)); exact Kd.R_mono HO256.out (fun _ hk => hk.2)), (by (with_reducible repeat (first | refine blk_drewN ?_ _ | refine blk_drew ?_ | refine blk_alloc ?_ _)); exact BK248.out), (by repeat (first | (with_reducible first | exact HB.out | apply below_alloc | apply pw_below_drewN | apply below_drew1 | refine below_set ?_ GE248.out) | exact HB.out))⟩)
                                      · skip
                                        rintro ⟨v251, v255⟩ w30 ⟨hS_, h0_, h1_, h2_, h3_⟩
                                        have n0_ : Aside0 (Kd.R (Kd.int .u8) 5 w30 w.heap.size (fun k_ => some k_ ≠ (v255 : Value).ownBlock) v251 y250) := ⟨h0_⟩
                                        have n1_ : Aside0 (Kd.R (Kd.int .u8) 5 w30 w.heap.size (fun k_ => some k_ ≠ (v251 : Value).ownBlock) v255 y254) := ⟨h1_⟩
                                        have n2_ : Aside0 (w30.heap[gb248]? = some (.cells #[.int .u8 a0_0, .bool a0_1, .bool a0_2, .bool a0_3, .int .u64 a0_4] 40 (0, 0))) := ⟨h2_⟩
                                        have n3_ : Aside0 (Below w.heap.size w w30) := ⟨h3_⟩
                                        clear BK248
                                        clear HB
                                        clear h0_ h1_ h2_ h3_
                                        have HO252 := n0_
                                        have HO256 := n1_
                                        have BK248 := n2_
                                        have HB := n3_
                                        clear n0_ n1_ n2_ n3_
                                        have hHeld : w30.cell? ⟨gb248, 0, none⟩ = some (.int .u8 a0_0) ∧ w30.cell? ⟨gb248, 1, none⟩ = some (.bool a0_1) ∧ w30.cell? ⟨gb248, 2, none⟩ = some (.bool a0_2) ∧ w30.cell? ⟨gb248, 3, none⟩ = some (.bool a0_3) ∧ w30.cell? ⟨gb248, 4, none⟩ = some (.int .u64 a0_4) := hS_
                                        refine norm_ (a' := ?_) ?_ ?_
                                        rotate_left
                                        · simp only [putAll, Act.put, List.setIfInBounds_toArray, List.set_cons_zero, List.set_cons_succ]
                                          rfl
                                        refine two_ (i := 8) (j := 11) (Ni := some 35) (Nj := some 38) #[true, true, true, true, true, true, true, true, true, true, true, false, false, true, true, false, false, false, false, false, false] #[true, true, true, true, true, true, true, true, false, true, true, true, false, true, true, false, false, false, false, false, false] rfl rfl rfl rfl (two_of HT_.out (by kernel_rfl)) (by decide) (by decide) (fun K hK => ?_) (fun K hK => ?_)
                                        · skip
                                          have hcv31 := own_string (P := Try.prog) Try.underlying60 Try.underlying5 Try.underlying9 (Kd.own_of_R HO252.out)
                                          refine value_ (w1 := ?_) (v := ?_) (by rfl) rfl ?_ ?_
                                          rotate_left 2
                                          · go_simp
                                            constructor
                                            · rfl
                                            · rfl
                                          clear hcv31
                                          refine hK.out _ _ ⟨(blk_cell BK248.out 0).trans rfl, (blk_cell BK248.out 1).trans rfl, (blk_cell BK248.out 2).trans rfl, (blk_cell BK248.out 3).trans rfl, (blk_cell BK248.out 4).trans rfl⟩ (fun hHeld => ?_)
                                          clear hK K
                                          refine norm_ (a' := ?_) ?_ ?_
                                          rotate_left
                                          · show Act.put _ (some 35) _ = _
                                            simp only [Act.put, List.setIfInBounds_toArray, List.set_cons_zero, List.set_cons_succ, i64_w, i32_w]
                                            rfl
                                          exact norm_ (by first | (simp only [putAll, Act.put, List.setIfInBounds_toArray, List.set_cons_zero, List.set_cons_succ]; done) | (simp only [putAll, Act.put, List.setIfInBounds_toArray, List.set_cons_zero, List.set_cons_succ]; rfl)) (hJ7_8_13_14 (v251, v255) _ ⟨hHeld, (by (with_reducible repeat (first | apply Kd.R_alloc | apply Kd.R_drewN | apply Kd.R_drew)); exact HO252.out), (by (with_reducible repeat (first | apply Kd.R_alloc | apply Kd.R_drewN | apply Kd.R_drew)); exact HO256.out), (by (with_reducible repeat (first | refine blk_drewN ?_ _ | refine blk_drew ?_ | refine blk_alloc ?_ _)); exact BK248.out), (by repeat (first | (with_reducible first | exact HB.out | apply below_alloc | apply pw_below_drewN | apply below_drew1 | refine below_set ?_ GE248.out) | exact HB.out))⟩)
                                        · skip
                                          refine goes_ Try.func30 (by kernel_rfl) rfl #[.int .u64 a0_4] (by rfl) rfl rfl (by (try simp only [List.map_toArray, List.map_cons, List.map_nil]); first | done | rfl | (simp only [List.length_drop, List.length_take]; rfl)) ?_
                                          with_reducible refine (carouselref02_Bytes.calls kj15 a0_4 t253 _ A19.out).mono ?_
                                          rintro e w31 ⟨rfl, hb⟩
                                          refine ⟨_, rfl, ?_⟩
                                          have n0_ := Aside0.mk (Kd.R_below (by (with_reducible repeat (first | apply Kd.R_alloc | apply Kd.R_drewN | apply Kd.R_drew)); exact HO252.out) hb)
                                          have n1_ := Aside0.mk (Kd.R_below (by (with_reducible repeat (first | apply Kd.R_alloc | apply Kd.R_drewN | apply Kd.R_drew)); exact HO256.out) hb)
                                          have n2_ := Aside0.mk (blk_below (g := gb248) (o := .cells #[.int .u8 a0_0, .bool a0_1, .bool a0_2, .bool a0_3, .int .u64 a0_4] 40 (0, 0)) (by (with_reducible repeat (first | refine blk_drewN ?_ _ | refine blk_drew ?_ | refine blk_alloc ?_ _)); exact BK248.out) hb)
                                          have n3_ := Aside0.mk (below_step (by repeat (first | (with_reducible first | exact HB.out | apply below_alloc | apply pw_below_drewN | apply below_drew1 | refine below_set ?_ GE248.out) | exact HB.out)) hb)
                                          clear HO252
                                          clear HO256
                                          clear BK248
                                          clear HB
                                          have HO252 := n0_
                                          have HO256 := n1_
                                          have BK248 := n2_
                                          have HB := n3_
                                          clear n0_ n1_ n2_ n3_
                                          (try clear hb)
                                          (try clear hb2)
                                          (try clear hk)
                                          (try clear hi)
                                          refine hK.out _ _ ⟨(blk_cell BK248.out 0).trans rfl, (blk_cell BK248.out 1).trans rfl, (blk_cell BK248.out 2).trans rfl, (blk_cell BK248.out 3).trans rfl, (blk_cell BK248.out 4).trans rfl⟩ (fun hHeld => ?_)
                                          clear hK K
                                          refine norm_ (a' := ?_) ?_ ?_
                                          rotate_left
                                          · show Act.put _ (some 38) _ = _
                                            simp only [Act.put, List.setIfInBounds_toArray, List.set_cons_zero, List.set_cons_succ, i64_w, i32_w]
                                            rfl
                                          exact norm_ (by first | (simp only [putAll, Act.put, List.setIfInBounds_toArray, List.set_cons_zero, List.set_cons_succ]; done) | (simp only [putAll, Act.put, List.setIfInBounds_toArray, List.set_cons_zero, List.set_cons_succ]; rfl)) (hJ7_11_13_14 (v251, v255) _ ⟨hHeld, (by (with_reducible repeat (first | apply Kd.R_alloc | apply Kd.R_drewN | apply Kd.R_drew)); exact HO252.out), (by (with_reducible repeat (first | apply Kd.R_alloc | apply Kd.R_drewN | apply Kd.R_drew)); exact HO256.out), (by (with_reducible repeat (first | refine blk_drewN ?_ _ | refine blk_drew ?_ | refine blk_alloc ?_ _)); exact BK248.out), (by repeat (first | (with_reducible first | exact HB.out | apply below_alloc | apply pw_below_drewN | apply below_drew1 | refine below_set ?_ GE248.out) | exact HB.out))⟩)
                                    · skip
                                      rintro ⟨v251, v255⟩ w30 ⟨hS_, h0_, h1_, h2_, h3_⟩
                                      have n0_ : Aside0 (Kd.R (Kd.int .u8) 5 w30 w.heap.size (fun k_ => some k_ ≠ (v255 : Value).ownBlock) v251 y250) := ⟨h0_⟩
                                      have n1_ : Aside0 (Kd.R (Kd.int .u8) 5 w30 w.heap.size (fun k_ => some k_ ≠ (v251 : Value).ownBlock) v255 y254) := ⟨h1_⟩
                                      have n2_ : Aside0 (w30.heap[gb248]? = some (.cells #[.int .u8 a0_0, .bool a0_1, .bool a0_2, .bool a0_3, .int .u64 a0_4] 40 (0, 0))) := ⟨h2_⟩
                                      have n3_ : Aside0 (Below w.heap.size w w30) := ⟨h3_⟩
                                      clear BK248
                                      clear HB
                                      clear h0_ h1_ h2_ h3_
                                      have HO252 := n0_
                                      have HO256 := n1_
                                      have BK248 := n2_
                                      have HB := n3_
                                      clear n0_ n1_ n2_ n3_
                                      have hHeld : w30.cell? ⟨gb248, 0, none⟩ = some (.int .u8 a0_0) ∧ w30.cell? ⟨gb248, 1, none⟩ = some (.bool a0_1) ∧ w30.cell? ⟨gb248, 2, none⟩ = some (.bool a0_2) ∧ w30.cell? ⟨gb248, 3, none⟩ = some (.bool a0_3) ∧ w30.cell? ⟨gb248, 4, none⟩ = some (.int .u64 a0_4) := hS_
                                      refine norm_ (a' := ?_) ?_ ?_
                                      rotate_left
                                      · simp only [putAll, Act.put, List.setIfInBounds_toArray, List.set_cons_zero, List.set_cons_succ]
                                        rfl
                                      refine two_ (i := 8) (j := 14) (Ni := some 35) (Nj := some 41) #[true, true, true, true, true, true, true, true, true, true, true, true, false, true, false, false, false, false, false, false, false] #[true, true, true, true, true, true, true, true, false, true, true, true, false, true, true, false, false, false, false, false, false] rfl rfl rfl rfl (two_of HT_.out (by kernel_rfl)) (by decide) (by decide) (fun K hK => ?_) (fun K hK => ?_)
                                      · skip
                                        have hcv31 := own_string (P := Try.prog) Try.underlying60 Try.underlying5 Try.underlying9 (Kd.own_of_R HO252.out)
                                        refine value_ (w1 := ?_) (v := ?_) (by rfl) rfl ?_ ?_
                                        rotate_left 2
                                        · go_simp
                                          constructor
                                          · rfl
                                          · rfl
                                        clear hcv31
                                        refine hK.out _ _ ⟨(blk_cell BK248.out 0).trans rfl, (blk_cell BK248.out 1).trans rfl, (blk_cell BK248.out 2).trans rfl, (blk_cell BK248.out 3).trans rfl, (blk_cell BK248.out 4).trans rfl⟩ (fun hHeld => ?_)
                                        clear hK K
                                        refine norm_ (a' := ?_) ?_ ?_
                                        rotate_left
                                        · show Act.put _ (some 35) _ = _
                                          simp only [Act.put, List.setIfInBounds_toArray, List.set_cons_zero, List.set_cons_succ, i64_w, i32_w]
                                          rfl
                                        refine pure_ (i := 12) (N := some 39) (v := ?_) (a' := ?_) #[true, true, true, true, true, true, true, true, true, true, true, true, true, true, false, false, false, false, false, false, false] rfl rfl (any_of HT_.out (by kernel_rfl)) (fun _ _ _ h => h) (Or.inl ⟨by rfl, ?_⟩) ?_ ?_
                                        rotate_left
                                        · intro w'
                                          go_simp
                                          with_reducible rfl
                                        rotate_left
                                        · simp only [Act.put, List.setIfInBounds_toArray, List.set_cons_zero, List.set_cons_succ, i64_w, i32_w]
                                          rfl
                                        exact norm_ (by first | (simp only [putAll, Act.put, List.setIfInBounds_toArray, List.set_cons_zero, List.set_cons_succ]; done) | (simp only [putAll, Act.put, List.setIfInBounds_toArray, List.set_cons_zero, List.set_cons_succ]; rfl)) (hJ7_8_11_13 (v251, v255) _ ⟨hHeld, (by (with_reducible repeat (first | apply Kd.R_alloc | apply Kd.R_drewN | apply Kd.R_drew)); exact HO252.out), (by (with_reducible repeat (first | apply Kd.R_alloc | apply Kd.R_drewN | apply Kd.R_drew)); exact HO256.out), (by (with_reducible repeat (first | refine blk_drewN ?_ _ | refine blk_drew ?_ | refine blk_alloc ?_ _)); exact BK248.out), (by repeat (first | (with_reducible first | exact HB.out | apply below_alloc | apply pw_below_drewN | apply below_drew1 | refine below_set ?_ GE248.out) | exact HB.out))⟩)
                                      · skip
                                        have hcv31 := own_string (P := Try.prog) Try.underlying60 Try.underlying5 Try.underlying9 (Kd.own_of_R HO256.out)
                                        refine value_ (w1 := ?_) (v := ?_) (by rfl) rfl ?_ ?_
                                        rotate_left 2
                                        · go_simp
                                          constructor
                                          · rfl
                                          · rfl
                                        clear hcv31
                                        refine hK.out _ _ ⟨(blk_cell BK248.out 0).trans rfl, (blk_cell BK248.out 1).trans rfl, (blk_cell BK248.out 2).trans rfl, (blk_cell BK248.out 3).trans rfl, (blk_cell BK248.out 4).trans rfl⟩ (fun hHeld => ?_)
                                        clear hK K
                                        refine norm_ (a' := ?_) ?_ ?_
                                        rotate_left
                                        · show Act.put _ (some 41) _ = _
                                          simp only [Act.put, List.setIfInBounds_toArray, List.set_cons_zero, List.set_cons_succ, i64_w, i32_w]
                                          rfl
                                        exact norm_ (by first | (simp only [putAll, Act.put, List.setIfInBounds_toArray, List.set_cons_zero, List.set_cons_succ]; done) | (simp only [putAll, Act.put, List.setIfInBounds_toArray, List.set_cons_zero, List.set_cons_succ]; rfl)) (hJ7_11_13_14 (v251, v255) _ ⟨hHeld, (by (with_reducible repeat (first | apply Kd.R_alloc | apply Kd.R_drewN | apply Kd.R_drew)); exact HO252.out), (by (with_reducible repeat (first | apply Kd.R_alloc | apply Kd.R_drewN | apply Kd.R_drew)); exact HO256.out), (by (with_reducible repeat (first | refine blk_drewN ?_ _ | refine blk_drew ?_ | refine blk_alloc ?_ _)); exact BK248.out), (by repeat (first | (with_reducible first | exact HB.out | apply below_alloc | apply pw_below_drewN | apply below_drew1 | refine below_set ?_ GE248.out) | exact HB.out))⟩)
                                  · skip
                                    rintro ⟨v251, v255⟩ w30 ⟨hS_, h0_, h1_, h2_, h3_⟩
                                    have n0_ : Aside0 (Kd.R (Kd.int .u8) 5 w30 w.heap.size (fun k_ => some k_ ≠ (v255 : Value).ownBlock) v251 y250) := ⟨h0_⟩
                                    have n1_ : Aside0 (Kd.R (Kd.int .u8) 5 w30 w.heap.size (fun k_ => some k_ ≠ (v251 : Value).ownBlock) v255 y254) := ⟨h1_⟩
                                    have n2_ : Aside0 (w30.heap[gb248]? = some (.cells #[.int .u8 a0_0, .bool a0_1, .bool a0_2, .bool a0_3, .int .u64 a0_4] 40 (0, 0))) := ⟨h2_⟩
                                    have n3_ : Aside0 (Below w.heap.size w w30) := ⟨h3_⟩
                                    clear BK248
                                    clear HB
                                    clear h0_ h1_ h2_ h3_
                                    have HO252 := n0_
                                    have HO256 := n1_
                                    have BK248 := n2_
                                    have HB := n3_
                                    clear n0_ n1_ n2_ n3_
                                    have hHeld : w30.cell? ⟨gb248, 0, none⟩ = some (.int .u8 a0_0) ∧ w30.cell? ⟨gb248, 1, none⟩ = some (.bool a0_1) ∧ w30.cell? ⟨gb248, 2, none⟩ = some (.bool a0_2) ∧ w30.cell? ⟨gb248, 3, none⟩ = some (.bool a0_3) ∧ w30.cell? ⟨gb248, 4, none⟩ = some (.int .u64 a0_4) := hS_
                                    refine norm_ (a' := ?_) ?_ ?_
                                    rotate_left
                                    · simp only [putAll, Act.put, List.setIfInBounds_toArray, List.set_cons_zero, List.set_cons_succ]
                                      rfl
                                    refine two_ (i := 11) (j := 14) (Ni := some 38) (Nj := some 41) #[true, true, true, true, true, true, true, true, true, true, true, true, false, true, false, false, false, false, false, false, false] #[true, true, true, true, true, true, true, true, true, true, true, false, false, true, true, false, false, false, false, false, false] rfl rfl rfl rfl (two_of HT_.out (by kernel_rfl)) (by decide) (by decide) (fun K hK => ?_) (fun K hK => ?_)
                                    · skip
                                      refine goes_ Try.func30 (by kernel_rfl) rfl #[.int .u64 a0_4] (by rfl) rfl rfl (by (try simp only [List.map_toArray, List.map_cons, List.map_nil]); first | done | rfl | (simp only [List.length_drop, List.length_take]; rfl)) ?_
                                      with_reducible refine (carouselref02_Bytes.calls kj15 a0_4 t253 _ A19.out).mono ?_
                                      rintro e w31 ⟨rfl, hb⟩
                                      refine ⟨_, rfl, ?_⟩
                                      have n0_ := Aside0.mk (Kd.R_below (by (with_reducible repeat (first | apply Kd.R_alloc | apply Kd.R_drewN | apply Kd.R_drew)); exact HO252.out) hb)
                                      have n1_ := Aside0.mk (Kd.R_below (by (with_reducible repeat (first | apply Kd.R_alloc | apply Kd.R_drewN | apply Kd.R_drew)); exact HO256.out) hb)
                                      have n2_ := Aside0.mk (blk_below (g := gb248) (o := .cells #[.int .u8 a0_0, .bool a0_1, .bool a0_2, .bool a0_3, .int .u64 a0_4] 40 (0, 0)) (by (with_reducible repeat (first | refine blk_drewN ?_ _ | refine blk_drew ?_ | refine blk_alloc ?_ _)); exact BK248.out) hb)
                                      have n3_ := Aside0.mk (below_step (by repeat (first | (with_reducible first | exact HB.out | apply below_alloc | apply pw_below_drewN | apply below_drew1 | refine below_set ?_ GE248.out) | exact HB.out)) hb)
                                      clear HO252
                                      clear HO256
                                      clear BK248
                                      clear HB
                                      have HO252 := n0_
                                      have HO256 := n1_
                                      have BK248 := n2_
                                      have HB := n3_
                                      clear n0_ n1_ n2_ n3_
                                      (try clear hb)
                                      (try clear hb2)
                                      (try clear hk)
                                      (try clear hi)
                                      refine hK.out _ _ ⟨(blk_cell BK248.out 0).trans rfl, (blk_cell BK248.out 1).trans rfl, (blk_cell BK248.out 2).trans rfl, (blk_cell BK248.out 3).trans rfl, (blk_cell BK248.out 4).trans rfl⟩ (fun hHeld => ?_)
                                      clear hK K
                                      refine norm_ (a' := ?_) ?_ ?_
                                      rotate_left
                                      · show Act.put _ (some 38) _ = _
                                        simp only [Act.put, List.setIfInBounds_toArray, List.set_cons_zero, List.set_cons_succ, i64_w, i32_w]
                                        rfl
                                      refine pure_ (i := 12) (N := some 39) (v := ?_) (a' := ?_) #[true, true, true, true, true, true, true, true, true, true, true, true, true, true, false, false, false, false, false, false, false] rfl rfl (any_of HT_.out (by kernel_rfl)) (fun _ _ _ h => h) (Or.inl ⟨by rfl, ?_⟩) ?_ ?_
                                      rotate_left
                                      · intro w'
                                        go_simp
                                        with_reducible rfl
                                      rotate_left
                                      · simp only [Act.put, List.setIfInBounds_toArray, List.set_cons_zero, List.set_cons_succ, i64_w, i32_w]
                                        rfl
                                      exact norm_ (by first | (simp only [putAll, Act.put, List.setIfInBounds_toArray, List.set_cons_zero, List.set_cons_succ]; done) | (simp only [putAll, Act.put, List.setIfInBounds_toArray, List.set_cons_zero, List.set_cons_succ]; rfl)) (hJ7_8_11_13 (v251, v255) _ ⟨hHeld, (by (with_reducible repeat (first | apply Kd.R_alloc | apply Kd.R_drewN | apply Kd.R_drew)); exact HO252.out), (by (with_reducible repeat (first | apply Kd.R_alloc | apply Kd.R_drewN | apply Kd.R_drew)); exact HO256.out), (by (with_reducible repeat (first | refine blk_drewN ?_ _ | refine blk_drew ?_ | refine blk_alloc ?_ _)); exact BK248.out), (by repeat (first | (with_reducible first | exact HB.out | apply below_alloc | apply pw_below_drewN | apply below_drew1 | refine below_set ?_ GE248.out) | exact HB.out))⟩)
                                    · skip
                                      have hcv31 := own_string (P := Try.prog) Try.underlying60 Try.underlying5 Try.underlying9 (Kd.own_of_R HO256.out)
                                      refine value_ (w1 := ?_) (v := ?_) (by rfl) rfl ?_ ?_
                                      rotate_left 2
                                      · go_simp
                                        constructor
                                        · rfl
                                        · rfl
                                      clear hcv31
                                      refine hK.out _ _ ⟨(blk_cell BK248.out 0).trans rfl, (blk_cell BK248.out 1).trans rfl, (blk_cell BK248.out 2).trans rfl, (blk_cell BK248.out 3).trans rfl, (blk_cell BK248.out 4).trans rfl⟩ (fun hHeld => ?_)
                                      clear hK K
                                      refine norm_ (a' := ?_) ?_ ?_
                                      rotate_left
                                      · show Act.put _ (some 41) _ = _
                                        simp only [Act.put, List.setIfInBounds_toArray, List.set_cons_zero, List.set_cons_succ, i64_w, i32_w]
                                        rfl
                                      exact norm_ (by first | (simp only [putAll, Act.put, List.setIfInBounds_toArray, List.set_cons_zero, List.set_cons_succ]; done) | (simp only [putAll, Act.put, List.setIfInBounds_toArray, List.set_cons_zero, List.set_cons_succ]; rfl)) (hJ7_8_13_14 (v251, v255) _ ⟨hHeld, (by (with_reducible repeat (first | apply Kd.R_alloc | apply Kd.R_drewN | apply Kd.R_drew)); exact HO252.out), (by (with_reducible repeat (first | apply Kd.R_alloc | apply Kd.R_drewN | apply Kd.R_drew)); exact HO256.out), (by (with_reducible repeat (first | refine blk_drewN ?_ _ | refine blk_drew ?_ | refine blk_alloc ?_ _)); exact BK248.out), (by repeat (first | (with_reducible first | exact HB.out | apply below_alloc | apply pw_below_drewN | apply below_drew1 | refine below_set ?_ GE248.out) | exact HB.out))⟩)
                                · skip
                                  rintro v251 w29 ⟨hS_, h0_, h1_, h2_⟩
                                  have n0_ : Aside0 (Kd.R (Kd.int .u8) 5 w29 w.heap.size (fun _ => True) v251 y250) := ⟨h0_⟩
                                  have n1_ : Aside0 (w29.heap[gb248]? = some (.cells #[.int .u8 a0_0, .bool a0_1, .bool a0_2, .bool a0_3, .int .u64 a0_4] 40 (0, 0))) := ⟨h1_⟩
                                  have n2_ : Aside0 (Below w.heap.size w w29) := ⟨h2_⟩
                                  clear BK248
                                  clear HB
                                  clear h0_ h1_ h2_
                                  have HO252 := n0_
                                  have BK248 := n1_
                                  have HB := n2_
                                  clear n0_ n1_ n2_
                                  have hHeld : w29.cell? ⟨gb248, 0, none⟩ = some (.int .u8 a0_0) ∧ w29.cell? ⟨gb248, 1, none⟩ = some (.bool a0_1) ∧ w29.cell? ⟨gb248, 2, none⟩ = some (.bool a0_2) ∧ w29.cell? ⟨gb248, 3, none⟩ = some (.bool a0_3) ∧ w29.cell? ⟨gb248, 4, none⟩ = some (.int .u64 a0_4) := hS_
                                  refine norm_ (a' := ?_) ?_ ?_
                                  rotate_left
                                  · simp only [putAll, Act.put, List.setIfInBounds_toArray, List.set_cons_zero, List.set_cons_succ]
                                    rfl
                                  refine one_ (i := 13) (N := some 40) #[true, true, true, true, true, true, true, true, true, true, true, true, true, true, false, false, false, false, false, false, false] rfl rfl (one_of HT_.out (by kernel_rfl)) (by decide) (fun K hK => ?_)
                                  refine Kd.R_make_step (Kd.int .u8) _ 5 (by rfl) (N := 40) rfl 60 _ _ rfl 24 rfl rfl Try.underlying60 (.int .u8 0) 1 info5 rfl (by decide) (by omega) 0 (ok := fun _ => True) (okp := fun _ => True) rfl (fun _ hk => hk) trivial (by omega) (by omega) (Below.refl _ _) (Nat.le_refl _) ?_
                                  intro v255 w30 ho31 hb hg_ hnew_
                                  clear hg_ hnew_
                                  (first | rw [← Ny254.out] at ho31 | (simp only [Int.reduceToNat] at ho31; rw [← Ny254.out] at ho31))
                                  have n0_ := Aside0.mk (Kd.R_elder' (by (with_reducible repeat (first | apply Kd.R_alloc | apply Kd.R_drewN | apply Kd.R_drew)); exact HO252.out) (Kd.R_base ho31) hb)
                                  have n1_ := Aside0.mk (Kd.R_lower (Kd.R_new' ho31 (Kd.R_lt (by (with_reducible repeat (first | apply Kd.R_alloc | apply Kd.R_drewN | apply Kd.R_drew)); exact HO252.out))) (below_size (by repeat (first | (with_reducible first | exact HB.out | apply below_alloc | apply pw_below_drewN | apply below_drew1 | refine below_set ?_ GE248.out) | exact HB.out))))
                                  have n2_ := Aside0.mk (blk_below (g := gb248) (o := .cells #[.int .u8 a0_0, .bool a0_1, .bool a0_2, .bool a0_3, .int .u64 a0_4] 40 (0, 0)) (by (with_reducible repeat (first | refine blk_drewN ?_ _ | refine blk_drew ?_ | refine blk_alloc ?_ _)); exact BK248.out) hb)
                                  have n3_ := Aside0.mk (below_step (by repeat (first | (with_reducible first | exact HB.out | apply below_alloc | apply pw_below_drewN | apply below_drew1 | refine below_set ?_ GE248.out) | exact HB.out)) hb)
                                  clear HO252
                                  clear BK248
                                  clear HB
                                  have HO252 := n0_
                                  have HO256 := n1_
                                  have BK248 := n2_
                                  have HB := n3_
                                  clear n0_ n1_ n2_ n3_
                                  clear hb ho31
                                  refine hK.out _ _ ⟨(blk_cell BK248.out 0).trans rfl, (blk_cell BK248.out 1).trans rfl, (blk_cell BK248.out 2).trans rfl, (blk_cell BK248.out 3).trans rfl, (blk_cell BK248.out 4).trans rfl⟩ (fun hHeld => ?_)
                                  clear hK K
                                  refine norm_ (a' := ?_) ?_ ?_
                                  rotate_left
                                  · show Act.put _ (some 40) _ = _
                                    simp only [Act.put, List.setIfInBounds_toArray, List.set_cons_zero, List.set_cons_succ, i64_w, i32_w]
                                    rfl
                                  exact norm_ (by first | (simp only [putAll, Act.put, List.setIfInBounds_toArray, List.set_cons_zero, List.set_cons_succ]; done) | (simp only [putAll, Act.put, List.setIfInBounds_toArray, List.set_cons_zero, List.set_cons_succ]; rfl)) (hJ7_8_11_13 (v251, v255) _ ⟨hHeld, (by (with_reducible repeat (first | apply Kd.R_alloc | apply Kd.R_drewN | apply Kd.R_drew)); exact Kd.R_mono HO252.out (fun _ hk => hk.2)), (by (with_reducible repeat (first | apply Kd.R_alloc | apply Kd.R_drewN | apply Kd.R_drew)); exact Kd.R_mono HO256.out (fun _ hk => hk.2)), (by (with_reducible repeat (first | refine blk_drewN ?_ _ | refine blk_drew ?_ | refine blk_alloc ?_ _)); exact BK248.out), (by repeat (first | (with_reducible first | exact HB.out | apply below_alloc | apply pw_below_drewN | apply below_drew1 | refine below_set ?_ GE248.out) | exact HB.out))⟩)
                              · skip
                                rintro ⟨v251, v255⟩ w31 ⟨hS_, h0_, h1_, h2_, h3_⟩
                                have n0_ : Aside0 (Kd.R (Kd.int .u8) 5 w31 w.heap.size (fun k_ => some k_ ≠ (v255 : Value).ownBlock) v251 y250) := ⟨h0_⟩
                                have n1_ : Aside0 (Kd.R (Kd.int .u8) 5 w31 w.heap.size (fun k_ => some k_ ≠ (v251 : Value).ownBlock) v255 y254) := ⟨h1_⟩
                                have n2_ : Aside0 (w31.heap[gb248]? = some (.cells #[.int .u8 a0_0, .bool a0_1, .bool a0_2, .bool a0_3, .int .u64 a0_4] 40 (0, 0))) := ⟨h2_⟩
                                have n3_ : Aside0 (Below w.heap.size w w31) := ⟨h3_⟩
                                clear BK248
                                clear HB
                                clear h0_ h1_ h2_ h3_
                                have HO252 := n0_
                                have HO256 := n1_
                                have BK248 := n2_
                                have HB := n3_
                                clear n0_ n1_ n2_ n3_
                                have hHeld : w31.cell? ⟨gb248, 0, none⟩ = some (.int .u8 a0_0) ∧ w31.cell? ⟨gb248, 1, none⟩ = some (.bool a0_1) ∧ w31.cell? ⟨gb248, 2, none⟩ = some (.bool a0_2) ∧ w31.cell? ⟨gb248, 3, none⟩ = some (.bool a0_3) ∧ w31.cell? ⟨gb248, 4, none⟩ = some (.int .u64 a0_4) := hS_
                                refine norm_ (a' := ?_) ?_ ?_
                                rotate_left
                                · simp only [putAll, Act.put, List.setIfInBounds_toArray, List.set_cons_zero, List.set_cons_succ]
                                  rfl
                                refine one_ (i := 8) (N := some 35) #[true, true, true, true, true, true, true, true, true, true, true, true, false, true, true, false, false, false, false, false, false] rfl rfl (one_of HT_.out (by kernel_rfl)) (by decide) (fun K hK => ?_)
                                have hcv32 := own_string (P := Try.prog) Try.underlying60 Try.underlying5 Try.underlying9 (Kd.own_of_R HO252.out)
                                refine value_ (w1 := ?_) (v := ?_) (by rfl) rfl ?_ ?_
                                rotate_left 2
                                · go_simp
                                  constructor
                                  · rfl
                                  · rfl
                                clear hcv32
                                refine hK.out _ _ ⟨(blk_cell BK248.out 0).trans rfl, (blk_cell BK248.out 1).trans rfl, (blk_cell BK248.out 2).trans rfl, (blk_cell BK248.out 3).trans rfl, (blk_cell BK248.out 4).trans rfl⟩ (fun hHeld => ?_)
                                clear hK K
                                refine norm_ (a' := ?_) ?_ ?_
                                rotate_left
                                · show Act.put _ (some 35) _ = _
                                  simp only [Act.put, List.setIfInBounds_toArray, List.set_cons_zero, List.set_cons_succ, i64_w, i32_w]
                                  rfl
                                refine pure_ (i := 12) (N := some 39) (v := ?_) (a' := ?_) #[true, true, true, true, true, true, true, true, true, true, true, true, true, true, true, false, false, false, false, false, false] rfl rfl (any_of HT_.out (by kernel_rfl)) (fun _ _ _ h => h) (Or.inl ⟨by rfl, ?_⟩) ?_ ?_
                                rotate_left
                                · intro w'
                                  go_simp
                                  with_reducible rfl
                                rotate_left
                                · simp only [Act.put, List.setIfInBounds_toArray, List.set_cons_zero, List.set_cons_succ, i64_w, i32_w]
                                  rfl
                                exact norm_ (by first | (simp only [putAll, Act.put, List.setIfInBounds_toArray, List.set_cons_zero, List.set_cons_succ]; done) | (simp only [putAll, Act.put, List.setIfInBounds_toArray, List.set_cons_zero, List.set_cons_succ]; rfl)) (hJ7_8_11_13_14 (v251, v255) _ ⟨hHeld, (by (with_reducible repeat (first | apply Kd.R_alloc | apply Kd.R_drewN | apply Kd.R_drew)); exact HO252.out), (by (with_reducible repeat (first | apply Kd.R_alloc | apply Kd.R_drewN | apply Kd.R_drew)); exact HO256.out), (by (with_reducible repeat (first | refine blk_drewN ?_ _ | refine blk_drew ?_ | refine blk_alloc ?_ _)); exact BK248.out), (by repeat (first | (with_reducible first | exact HB.out | apply below_alloc | apply pw_below_drewN | apply below_drew1 | refine below_set ?_ GE248.out) | exact HB.out))⟩)
                            · skip
                              rintro ⟨v251, v255⟩ w31 ⟨hS_, h0_, h1_, h2_, h3_⟩
                              have n0_ : Aside0 (Kd.R (Kd.int .u8) 5 w31 w.heap.size (fun k_ => some k_ ≠ (v255 : Value).ownBlock) v251 y250) := ⟨h0_⟩
                              have n1_ : Aside0 (Kd.R (Kd.int .u8) 5 w31 w.heap.size (fun k_ => some k_ ≠ (v251 : Value).ownBlock) v255 y254) := ⟨h1_⟩
                              have n2_ : Aside0 (w31.heap[gb248]? = some (.cells #[.int .u8 a0_0, .bool a0_1, .bool a0_2, .bool a0_3, .int .u64 a0_4] 40 (0, 0))) := ⟨h2_⟩
                              have n3_ : Aside0 (Below w.heap.size w w31) := ⟨h3_⟩
                              clear BK248
                              clear HB
                              clear h0_ h1_ h2_ h3_
                              have HO252 := n0_
                              have HO256 := n1_
                              have BK248 := n2_
                              have HB := n3_
                              clear n0_ n1_ n2_ n3_
                              have hHeld : w31.cell? ⟨gb248, 0, none⟩ = some (.int .u8 a0_0) ∧ w31.cell? ⟨gb248, 1, none⟩ = some (.bool a0_1) ∧ w31.cell? ⟨gb248, 2, none⟩ = some (.bool a0_2) ∧ w31.cell? ⟨gb248, 3, none⟩ = some (.bool a0_3) ∧ w31.cell? ⟨gb248, 4, none⟩ = some (.int .u64 a0_4) := hS_
                              refine norm_ (a' := ?_) ?_ ?_
                              rotate_left
                              · simp only [putAll, Act.put, List.setIfInBounds_toArray, List.set_cons_zero, List.set_cons_succ]
                                rfl
                              refine one_ (i := 11) (N := some 38) #[true, true, true, true, true, true, true, true, true, true, true, true, false, true, true, false, false, false, false, false, false] rfl rfl (one_of HT_.out (by kernel_rfl)) (by decide) (fun K hK => ?_)
                              refine goes_ Try.func30 (by kernel_rfl) rfl #[.int .u64 a0_4] (by rfl) rfl rfl (by (try simp only [List.map_toArray, List.map_cons, List.map_nil]); first | done | rfl | (simp only [List.length_drop, List.length_take]; rfl)) ?_
                              with_reducible refine (carouselref02_Bytes.calls kj15 a0_4 t253 _ A19.out).mono ?_
                              rintro e w32 ⟨rfl, hb⟩
                              refine ⟨_, rfl, ?_⟩
                              have n0_ := Aside0.mk (Kd.R_below (by (with_reducible repeat (first | apply Kd.R_alloc | apply Kd.R_drewN | apply Kd.R_drew)); exact HO252.out) hb)
                              have n1_ := Aside0.mk (Kd.R_below (by (with_reducible repeat (first | apply Kd.R_alloc | apply Kd.R_drewN | apply Kd.R_drew)); exact HO256.out) hb)
                              have n2_ := Aside0.mk (blk_below (g := gb248) (o := .cells #[.int .u8 a0_0, .bool a0_1, .bool a0_2, .bool a0_3, .int .u64 a0_4] 40 (0, 0)) (by (with_reducible repeat (first | refine blk_drewN ?_ _ | refine blk_drew ?_ | refine blk_alloc ?_ _)); exact BK248.out) hb)
                              have n3_ := Aside0.mk (below_step (by repeat (first | (with_reducible first | exact HB.out | apply below_alloc | apply pw_below_drewN | apply below_drew1 | refine below_set ?_ GE248.out) | exact HB.out)) hb)
                              clear HO252
                              clear HO256
                              clear BK248
                              clear HB
                              have HO252 := n0_
                              have HO256 := n1_
                              have BK248 := n2_
                              have HB := n3_
                              clear n0_ n1_ n2_ n3_
                              (try clear hb)
                              (try clear hb2)
                              (try clear hk)
                              (try clear hi)
                              refine hK.out _ _ ⟨(blk_cell BK248.out 0).trans rfl, (blk_cell BK248.out 1).trans rfl, (blk_cell BK248.out 2).trans rfl, (blk_cell BK248.out 3).trans rfl, (blk_cell BK248.out 4).trans rfl⟩ (fun hHeld => ?_)
                              clear hK K
                              refine norm_ (a' := ?_) ?_ ?_
                              rotate_left
                              · show Act.put _ (some 38) _ = _
                                simp only [Act.put, List.setIfInBounds_toArray, List.set_cons_zero, List.set_cons_succ, i64_w, i32_w]
                                rfl
                              refine pure_ (i := 12) (N := some 39) (v := ?_) (a' := ?_) #[true, true, true, true, true, true, true, true, true, true, true, true, true, true, true, false, false, false, false, false, false] rfl rfl (any_of HT_.out (by kernel_rfl)) (fun _ _ _ h => h) (Or.inl ⟨by rfl, ?_⟩) ?_ ?_
                              rotate_left
                              · intro w'
                                go_simp
                                with_reducible rfl
                              rotate_left
                              · simp only [Act.put, List.setIfInBounds_toArray, List.set_cons_zero, List.set_cons_succ, i64_w, i32_w]
                                rfl
                              exact norm_ (by first | (simp only [putAll, Act.put, List.setIfInBounds_toArray, List.set_cons_zero, List.set_cons_succ]; done) | (simp only [putAll, Act.put, List.setIfInBounds_toArray, List.set_cons_zero, List.set_cons_succ]; rfl)) (hJ7_8_11_13_14 (v251, v255) _ ⟨hHeld, (by (with_reducible repeat (first | apply Kd.R_alloc | apply Kd.R_drewN | apply Kd.R_drew)); exact HO252.out), (by (with_reducible repeat (first | apply Kd.R_alloc | apply Kd.R_drewN | apply Kd.R_drew)); exact HO256.out), (by (with_reducible repeat (first | refine blk_drewN ?_ _ | refine blk_drew ?_ | refine blk_alloc ?_ _)); exact BK248.out), (by repeat (first | (with_reducible first | exact HB.out | apply below_alloc | apply pw_below_drewN | apply below_drew1 | refine below_set ?_ GE248.out) | exact HB.out))⟩)
                          · skip
                            rintro ⟨v251, v255⟩ w31 ⟨hS_, h0_, h1_, h2_, h3_⟩
                            have n0_ : Aside0 (Kd.R (Kd.int .u8) 5 w31 w.heap.size (fun k_ => some k_ ≠ (v255 : Value).ownBlock) v251 y250) := ⟨h0_⟩
                            have n1_ : Aside0 (Kd.R (Kd.int .u8) 5 w31 w.heap.size (fun k_ => some k_ ≠ (v251 : Value).ownBlock) v255 y254) := ⟨h1_⟩
                            have n2_ : Aside0 (w31.heap[gb248]? = some (.cells #[.int .u8 a0_0, .bool a0_1, .bool a0_2, .bool a0_3, .int .u64 a0_4] 40 (0, 0))) := ⟨h2_⟩
                            have n3_ : Aside0 (Below w.heap.size w w31) := ⟨h3_⟩
                            clear BK248
                            clear HB
                            clear h0_ h1_ h2_ h3_
                            have HO252 := n0_
                            have HO256 := n1_
                            have BK248 := n2_
                            have HB := n3_
                            clear n0_ n1_ n2_ n3_
                            have hHeld : w31.cell? ⟨gb248, 0, none⟩ = some (.int .u8 a0_0) ∧ w31.cell? ⟨gb248, 1, none⟩ = some (.bool a0_1) ∧ w31.cell? ⟨gb248, 2, none⟩ = some (.bool a0_2) ∧ w31.cell? ⟨gb248, 3, none⟩ = some (.bool a0_3) ∧ w31.cell? ⟨gb248, 4, none⟩ = some (.int .u64 a0_4) := hS_
                            refine norm_ (a' := ?_) ?_ ?_
                            rotate_left
                            · simp only [putAll, Act.put, List.setIfInBounds_toArray, List.set_cons_zero, List.set_cons_succ]
                              rfl
                            refine one_ (i := 14) (N := some 41) #[true, true, true, true, true, true, true, true, true, true, true, true, true, true, true, false, false, false, false, false, false] rfl rfl (one_of HT_.out (by kernel_rfl)) (by decide) (fun K hK => ?_)
                            have hcv32 := own_string (P := Try.prog) Try.underlying60 Try.underlying5 Try.underlying9 (Kd.own_of_R HO256.out)
                            refine value_ (w1 := ?_) (v := ?_) (by rfl) rfl ?_ ?_
                            rotate_left 2
                            · go_simp
                              constructor
                              · rfl
                              · rfl
                            clear hcv32
                            refine hK.out _ _ ⟨(blk_cell BK248.out 0).trans rfl, (blk_cell BK248.out 1).trans rfl, (blk_cell BK248.out 2).trans rfl, (blk_cell BK248.out 3).trans rfl, (blk_cell BK248.out 4).trans rfl⟩ (fun hHeld => ?_)
                            clear hK K
                            refine norm_ (a' := ?_) ?_ ?_
                            rotate_left
                            · show Act.put _ (some 41) _ = _
                              simp only [Act.put, List.setIfInBounds_toArray, List.set_cons_zero, List.set_cons_succ, i64_w, i32_w]
                              rfl
                            exact norm_ (by first | (simp only [putAll, Act.put, List.setIfInBounds_toArray, List.set_cons_zero, List.set_cons_succ]; done) | (simp only [putAll, Act.put, List.setIfInBounds_toArray, List.set_cons_zero, List.set_cons_succ]; rfl)) (hJ7_8_11_13_14 (v251, v255) _ ⟨hHeld, (by (with_reducible repeat (first | apply Kd.R_alloc | apply Kd.R_drewN | apply Kd.R_drew)); exact HO252.out), (by (with_reducible repeat (first | apply Kd.R_alloc | apply Kd.R_drewN | apply Kd.R_drew)); exact HO256.out), (by (with_reducible repeat (first | refine blk_drewN ?_ _ | refine blk_drew ?_ | refine blk_alloc ?_ _)); exact BK248.out), (by repeat (first | (with_reducible first | exact HB.out | apply below_alloc | apply pw_below_drewN | apply below_drew1 | refine below_set ?_ GE248.out) | exact HB.out))⟩)
                        rintro ⟨v251, v255⟩ w32 ⟨hS_, h0_, h1_, h2_, h3_⟩
                        have n0_ : Aside0 (Kd.R (Kd.int .u8) 5 w32 w.heap.size (fun k_ => some k_ ≠ (v255 : Value).ownBlock) v251 y250) := ⟨h0_⟩
                        have n1_ : Aside0 (Kd.R (Kd.int .u8) 5 w32 w.heap.size (fun k_ => some k_ ≠ (v251 : Value).ownBlock) v255 y254) := ⟨h1_⟩
                        have n2_ : Aside0 (w32.heap[gb248]? = some (.cells #[.int .u8 a0_0, .bool a0_1, .bool a0_2, .bool a0_3, .int .u64 a0_4] 40 (0, 0))) := ⟨h2_⟩
                        have n3_ : Aside0 (Below w.heap.size w w32) := ⟨h3_⟩
                        clear BK248
                        clear HB
                        clear h0_ h1_ h2_ h3_
                        have HO252 := n0_
                        have HO256 := n1_
                        have BK248 := n2_
                        have HB := n3_
                        clear n0_ n1_ n2_ n3_
                        have hHeld : w32.cell? ⟨gb248, 0, none⟩ = some (.int .u8 a0_0) ∧ w32.cell? ⟨gb248, 1, none⟩ = some (.bool a0_1) ∧ w32.cell? ⟨gb248, 2, none⟩ = some (.bool a0_2) ∧ w32.cell? ⟨gb248, 3, none⟩ = some (.bool a0_3) ∧ w32.cell? ⟨gb248, 4, none⟩ = some (.int .u64 a0_4) := hS_
                        refine norm_ (a' := ?_) ?_ ?_
                        rotate_left
                        · simp only [putAll, Act.put, List.setIfInBounds_toArray, List.set_cons_zero, List.set_cons_succ]
                          rfl
                        refine pure_ (i := 15) (N := some 42) (v := ?_) (a' := ?_) #[true, true, true, true, true, true, true, true, true, true, true, true, true, true, true, true, false, false, false, false, false] rfl rfl (any_of HT_.out (by kernel_rfl)) (fun _ _ _ h => h) (Or.inl ⟨by rfl, ?_⟩) ?_ ?_
                        rotate_left
                        · intro w'
                          go_simp
                          with_reducible rfl
                        rotate_left
                        · simp only [Act.put, List.setIfInBounds_toArray, List.set_cons_zero, List.set_cons_succ, i64_w, i32_w]
                          rfl
                        refine one_ (i := 16) (N := some 43) #[true, true, true, true, true, true, true, true, true, true, true, true, true, true, true, true, true, false, false, false, false] rfl rfl (one_of HT_.out (by kernel_rfl)) (by decide) (fun K hK => ?_)
                        refine goes_ Try.func43 (by kernel_rfl) rfl #[.agg #[.int .u8 a1, .int .u8 1, .int .u8 40, .int .u8 0, .int .u8 32], .string (((strOfNums y250) ++ t253) ++ (strOfNums y254))] (by rfl) rfl rfl (by (try simp only [List.map_toArray, List.map_cons, List.map_nil]); first | done | rfl | (simp only [List.length_drop, List.length_take]; rfl)) ?_
                        with_reducible refine (carouselref04_Close.calls kj15 a1 1 40 0 32 (((strOfNums y250) ++ t253) ++ (strOfNums y254)) t257 t258 _ A23.out).mono ?_
                        rintro e w33 ⟨rfl, hb⟩
                        refine ⟨_, rfl, ?_⟩
                        have n0_ := Aside0.mk (Kd.R_below (by (with_reducible repeat (first | apply Kd.R_alloc | apply Kd.R_drewN | apply Kd.R_drew)); exact HO252.out) hb)
                        have n1_ := Aside0.mk (Kd.R_below (by (with_reducible repeat (first | apply Kd.R_alloc | apply Kd.R_drewN | apply Kd.R_drew)); exact HO256.out) hb)
                        have n2_ := Aside0.mk (blk_below (g := gb248) (o := .cells #[.int .u8 a0_0, .bool a0_1, .bool a0_2, .bool a0_3, .int .u64 a0_4] 40 (0, 0)) (by (with_reducible repeat (first | refine blk_drewN ?_ _ | refine blk_drew ?_ | refine blk_alloc ?_ _)); exact BK248.out) hb)
                        have n3_ := Aside0.mk (below_step (by repeat (first | (with_reducible first | exact HB.out | apply below_alloc | apply pw_below_drewN | apply below_drew1 | refine below_set ?_ GE248.out) | exact HB.out)) hb)
                        clear HO252
                        clear HO256
                        clear BK248
                        clear HB
                        have HO252 := n0_
                        have HO256 := n1_
                        have BK248 := n2_
                        have HB := n3_
                        clear n0_ n1_ n2_ n3_
                        (try clear hb)
                        (try clear hb2)
                        (try clear hk)
                        (try clear hi)
                        refine hK.out _ _ ⟨(blk_cell BK248.out 0).trans rfl, (blk_cell BK248.out 1).trans rfl, (blk_cell BK248.out 2).trans rfl, (blk_cell BK248.out 3).trans rfl, (blk_cell BK248.out 4).trans rfl⟩ (fun hHeld => ?_)
                        clear hK K
                        refine norm_ (a' := ?_) ?_ ?_
                        rotate_left
                        · show Act.put _ (some 43) _ = _
                          simp only [Act.put, List.setIfInBounds_toArray, List.set_cons_zero, List.set_cons_succ, i64_w, i32_w]
                          rfl
                        refine pure_ (i := 17) (N := some 44) (v := ?_) (a' := ?_) #[true, true, true, true, true, true, true, true, true, true, true, true, true, true, true, true, true, true, false, false, false] rfl rfl (any_of HT_.out (by kernel_rfl)) (fun _ _ _ h => h) (Or.inl ⟨by rfl, ?_⟩) ?_ ?_
                        rotate_left
                        · intro w'
                          go_simp
                          with_reducible rfl
                        rotate_left
                        · simp only [Act.put, List.setIfInBounds_toArray, List.set_cons_zero, List.set_cons_succ, i64_w, i32_w]
                          rfl
                        refine pure_ (i := 18) (N := some 45) (v := ?_) (a' := ?_) #[true, true, true, true, true, true, true, true, true, true, true, true, true, true, true, true, true, true, true, false, false] rfl rfl (any_of HT_.out (by kernel_rfl)) (fun _ _ _ h => h) (Or.inl ⟨by rfl, ?_⟩) ?_ ?_
                        rotate_left
                        · intro w'
                          go_simp
                          with_reducible rfl
                        rotate_left
                        · simp only [Act.put, List.setIfInBounds_toArray, List.set_cons_zero, List.set_cons_succ, i64_w, i32_w]
                          rfl
                        refine pure_ (i := 19) (N := some 4) (v := ?_) (a' := ?_) #[true, true, true, true, true, true, true, true, true, true, true, true, true, true, true, true, true, true, true, true, false] rfl rfl (any_of HT_.out (by kernel_rfl)) (fun _ _ _ h => h) (Or.inl ⟨by rfl, ?_⟩) ?_ ?_
                        rotate_left
                        · intro w'
                          go_simp
                          with_reducible rfl
                        rotate_left
                        · simp only [Act.put, List.setIfInBounds_toArray, List.set_cons_zero, List.set_cons_succ, i64_w, i32_w]
                          rfl
                        refine pure_ (i := 20) (N := some 5) (v := ?_) (a' := ?_) #[true, true, true, true, true, true, true, true, true, true, true, true, true, true, true, true, true, true, true, true, true] rfl rfl (any_of HT_.out (by kernel_rfl)) (fun _ _ _ h => h) (Or.inl ⟨by rfl, ?_⟩) ?_ ?_
                        rotate_left
                        · intro w'
                          go_simp
                          with_reducible rfl
                        rotate_left
                        · simp only [Act.put, List.setIfInBounds_toArray, List.set_cons_zero, List.set_cons_succ, i64_w, i32_w]
                          rfl
                        refine done_ (done_of HT_.out (by kernel_rfl)) ?_
                        try go_wp2
                        go_ret2
                        exact ⟨by first | rfl | (simp [errW_none, errW_some] <;> rfl) | (simp [*, errW_none, errW_some] <;> rfl), by repeat (first | (with_reducible first | exact HB.out | apply below_alloc | apply pw_below_drewN | apply below_drew1 | refine below_set ?_ GE248.out) | exact HB.out)⟩
                      · rw [if_neg c22] at H
                        exact absurd H (by simp)
                    · rw [if_neg c21] at H
                      exact absurd H (by simp)
                  · rw [if_neg c20] at H
                    exact absurd H (by simp)
    · rw [if_neg c6] at H
      have c6b0 : (t249 == 0) = false := beq_eq_false_iff_ne.mpr c6
      have c6b1 : (t249 != 0) = true := bne_iff_ne.mpr c6
      simp only [Option.some.injEq, Prod.mk.injEq] at H
      obtain ⟨rfl, rfl⟩ := H
      go_enter Try.func15, Try.ntmps15
      go_wp2_with (first | ((with_reducible refine gate_dst (N := 2) rfl ?_); refine box_event ?hg (N := 2) ?hd (cs := #[.int .u8 a0_0, .bool a0_1, .bool a0_2, .bool a0_3, .int .u64 a0_4]) (t := 40) ?hr ?_; (case hd => rfl); (case hg => rfl); (case hr => first | (go_simp; done) | (go_simp; rfl)); intro gb248 hg w34 hbox hb; have n0_ := Aside0.mk (below_step (by repeat (first | (with_reducible first | exact HB.out | apply below_alloc | apply pw_below_drewN | apply below_drew1) | exact HB.out)) hb); have n1_ := Aside0.mk (hbox); have n2_ := Aside0.mk ((by rw [hg]; exact (below_size (by repeat (first | (with_reducible first | exact HB.out | apply below_alloc | apply pw_below_drewN | apply below_drew1) | exact HB.out))) : w.heap.size ≤ gb248)); have n3_ := Aside0.mk ((by rw [hg]; exact (below_size (by repeat (first | (with_reducible first | exact HB.out | apply below_alloc | apply pw_below_drewN | apply below_drew1) | exact HB.out))) : w.heap.size ≤ gb248)); clear HB; have HB := n0_; have BK248 := n1_; have GW248 := n2_; have GE248 := n3_; clear n0_ n1_ n2_ n3_; clear hb hbox hg; have hcz35_0 : w34.cell? ⟨gb248, 0, none⟩ = some (.int .u8 a0_0) := (blk_cell BK248.out 0).trans rfl; have hcz35_1 : w34.cell? ⟨gb248, 1, none⟩ = some (.bool a0_1) := (blk_cell BK248.out 1).trans rfl; have hcz35_2 : w34.cell? ⟨gb248, 2, none⟩ = some (.bool a0_2) := (blk_cell BK248.out 2).trans rfl; have hcz35_3 : w34.cell? ⟨gb248, 3, none⟩ = some (.bool a0_3) := (blk_cell BK248.out 3).trans rfl; have hcz35_4 : w34.cell? ⟨gb248, 4, none⟩ = some (.int .u64 a0_4) := (blk_cell BK248.out 4).trans rfl; have hfz35_0 := blk_frozen BK248.out 0; have hfz35_1 := blk_frozen BK248.out 1; have hfz35_2 := blk_frozen BK248.out 2; have hfz35_3 := blk_frozen BK248.out 3; have hfz35_4 := blk_frozen BK248.out 4) | ((with_reducible refine gate_callee (f := 42) rfl ?_); refine goesL_ (some 11) rfl rfl Try.func42 (by kernel_rfl) rfl #[.agg #[.int .u8 a0_0, .bool a0_1, .bool a0_2, .bool a0_3, .int .u64 a0_4]] rfl (by (try simp only [List.map_toArray, List.map_cons, List.map_nil]); first | done | rfl | (simp only [List.length_drop, List.length_take]; rfl)) ?_; (with_reducible refine (carouselref05_wrong.calls k a0_0 a0_1 a0_2 a0_3 a0_4 t249 _ A5.out).mono ?_); rintro e w36 ⟨rfl, hb⟩; refine ⟨_, rfl, ?_⟩; have n0_ := Aside0.mk (blk_below (g := gb248) (o := .cells #[.int .u8 a0_0, .bool a0_1, .bool a0_2, .bool a0_3, .int .u64 a0_4] 40 (0, 0)) (by (with_reducible repeat (first | refine blk_drewN ?_ _ | refine blk_drew ?_ | refine blk_alloc ?_ _)); exact BK248.out) hb); have n1_ := Aside0.mk (below_step (by repeat (first | (with_reducible first | exact HB.out | apply below_alloc | apply pw_below_drewN | apply below_drew1 | refine below_set ?_ GE248.out) | exact HB.out)) hb); clear BK248; clear HB; have BK248 := n0_; have HB := n1_; clear n0_ n1_; (try clear hb); (try clear hb2); (try clear hk); (try clear hi)))
      go_ret2
      exact ⟨by first | rfl | (simp [errW_none, errW_some] <;> rfl) | (simp [*, errW_none, errW_some] <;> rfl), by repeat (first | (with_reducible first | exact HB.out | apply below_alloc | apply pw_below_drewN | apply below_drew1 | refine below_set ?_ GE248.out) | exact HB.out)⟩

end Go.Proofs.Ytmdaaphjndjakad.PAll
