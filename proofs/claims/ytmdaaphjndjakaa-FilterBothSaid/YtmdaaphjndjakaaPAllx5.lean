-- Written by a program of this work, after the translation.
import Derived.Test.YtmdaaphjndjakaaPAllx0
import Derived.Test.YtmdaaphjndjakaaPAllx1
import Derived.Test.YtmdaaphjndjakaaPAllx2
import Derived.Test.YtmdaaphjndjakaaPAllx3
namespace Go.Proofs.Ytmdaaphjndjakaa.PAll
open Go.RowKit Go.Proofs.YtmdaaphjndjakaaW.PrintWords Go.Proofs.YtmdaaphjndjakaaW.PrintLast Go.Proofs.YtmdaaphjndjakaaW.PrintMore
attribute [local go_sem] max2_int min2_int max_two min_two max_three min_three max_four min_four   -- for this text's walks alone
set_option linter.unusedVariables false
set_option linter.unusedSimpArgs false

/-! ### carousellaw18_FilterBoth: function 4 -/
def carousellaw18_FilterBoth.j0 : Nat → Bool → Bool → Int → Int → Bool → Bool → Bool → Option (Bool)
  | 0, _, _, _, _, _, _, _ => none
  | k + 1, x0, x1, x2, x3, x32, x142000, x142001 => if x32 = true then (some false) else ((carousellaw18_Awake.f k).bind fun t146 => (if t146 = true then ((filter_Ring.f x142000 x142001 0 1).bind fun t147 => (if x0 = true then (if (t147 == false) = true then ((filter_Ring.f x142000 x142001 x2 x3).bind fun t148 => (if t148 = true then (some false) else ((filter_Data.f x142000 x142001 x2 x2).bind fun t149 => (some (!t149))))) else (some false)) else (if (t147 == (!x1)) = true then (if x1 = true then ((filter_Ring.f x142000 x142001 x2 x3).bind fun t150 => (if t150 = true then (some false) else ((filter_Data.f x142000 x142001 x2 x2).bind fun t151 => (some (!t151))))) else ((filter_Data.f x142000 x142001 x2 x2).bind fun t152 => (some (!t152)))) else (some false)))) else (some false)))
def carousellaw18_FilterBoth.f (k : Nat) (a0 : Bool) (a1 : Bool) (a2 : Int) (a3 : Int) : Option (Bool) := (filter_Data.f a0 a1 a2 a3).bind fun t142 => ((filter_Data.f a0 a1 a3 a2).bind fun t143 => (if (t142 != t143) = true then (carousellaw18_FilterBoth.j0 k a0 a1 a2 a3 true a0 a1) else ((filter_Ring.f a0 a1 a2 a3).bind fun t144 => ((filter_Ring.f a0 a1 a3 a2).bind fun t145 => (carousellaw18_FilterBoth.j0 k a0 a1 a2 a3 (t144 != t145) a0 a1)))))
theorem carousellaw18_FilterBoth.mono_l : ∀ k, (∀ y0 y1 y2 y3 y4 y5 y6, LeO (carousellaw18_FilterBoth.j0 k y0 y1 y2 y3 y4 y5 y6) (carousellaw18_FilterBoth.j0 (k + 1) y0 y1 y2 y3 y4 y5 y6))
  | 0 => fun _ _ _ _ _ _ _ r h => by simp [carousellaw18_FilterBoth.j0] at h
  | k + 1 => by
    have ih0 := carousellaw18_FilterBoth.mono_l k
    · intro y0 y1 y2 y3 y4 y5 y6
      unfold carousellaw18_FilterBoth.j0
      repeat' first
      | (with_reducible exact ih0 _ _ _ _ _ _ _)
      | (with_reducible exact carousellaw18_Awake.mono _)
      | (with_reducible exact LeO.refl _)
      | (with_reducible exact LeO.none _)
      | (with_reducible refine LeO.ite ?_ ?_)
      | (with_reducible refine LeO.bind ?_ (fun _ => ?_))
      | exact ih0 _ _ _ _ _ _ _
      | exact carousellaw18_Awake.mono _
      | exact LeO.none _
      | refine LeO.ite ?_ ?_
      | refine LeO.bind ?_ (fun _ => ?_)
theorem carousellaw18_FilterBoth.mono : ∀ a0 a1 a2 a3 k, LeO (carousellaw18_FilterBoth.f k a0 a1 a2 a3) (carousellaw18_FilterBoth.f (k + 1) a0 a1 a2 a3) := by
  intro a0 a1 a2 a3 k
  have ih0 := carousellaw18_FilterBoth.mono_l k
  unfold carousellaw18_FilterBoth.f
  repeat' first
      | (with_reducible exact ih0 _ _ _ _ _ _ _)
      | (with_reducible exact carousellaw18_Awake.mono _)
      | (with_reducible exact LeO.refl _)
      | (with_reducible exact LeO.none _)
      | (with_reducible refine LeO.ite ?_ ?_)
      | (with_reducible refine LeO.bind ?_ (fun _ => ?_))
      | exact ih0 _ _ _ _ _ _ _
      | exact carousellaw18_Awake.mono _
      | exact LeO.none _
      | refine LeO.ite ?_ ?_
      | refine LeO.bind ?_ (fun _ => ?_)
def carousellaw18_FilterBoth.T2 : Bool × List (List Nat × List Nat) := (true, [([], []), ([], []), ([], []), ([0, 1, 2], [0, 1, 2]), ([], []), ([], []), ([], []), ([4, 5, 6, 3], [4, 5, 6]), ([3, 7], [3, 7]), ([8, 7], [8]), ([9], [9]), ([9], [9]), ([9], [9]), ([10, 11, 12, 9, 9], [9, 10, 11, 12]), ([9], [9]), ([9], [9]), ([9], [9]), ([14, 15, 16, 13, 9], [9, 14, 15, 16]), ([13, 17, 9], [9, 13, 17]), ([9, 18], [9, 18])])
def carousellaw18_FilterBoth.B2 : List Nat := [0, 0, 0, 7, 0, 0, 0, 127, 255, 511, 1023, 1023, 1023, 8191, 1023, 1023, 1023, 131071, 262143, 524287]
theorem carousellaw18_FilterBoth.tab2 : rtab .any (opsOf Try.f4 2) = carousellaw18_FilterBoth.T2 := by kernel_rfl
theorem carousellaw18_FilterBoth.bits2 : waitsOk carousellaw18_FilterBoth.T2.2 carousellaw18_FilterBoth.B2 = true := by kernel_rfl
set_option maxHeartbeats 8000000 in
set_option maxRecDepth 100000 in
theorem carousellaw18_FilterBoth.calls (k : Nat) (a0 : Bool) (a1 : Bool) (a2 : Int) (a3 : Int) (r : Bool) (w : World) (h : carousellaw18_FilterBoth.f k a0 a1 a2 a3 = some r) :
    Calls Try.prog 4 #[.bool a0, .bool a1, .int .i64 a2, .int .i64 a3] w fun e w' => e = .returned (.bool r) ∧ Below w.heap.size w w' := by
  have hu22 := Try.underlying22
  have HB := Aside0.mk (Below.refl w.heap.size w)
  have H : ((filter_Data.f a0 a1 a2 a3).bind fun t142 => ((filter_Data.f a0 a1 a3 a2).bind fun t143 => (if (t142 != t143) = true then (carousellaw18_FilterBoth.j0 k a0 a1 a2 a3 true a0 a1) else ((filter_Ring.f a0 a1 a2 a3).bind fun t144 => ((filter_Ring.f a0 a1 a3 a2).bind fun t145 => (carousellaw18_FilterBoth.j0 k a0 a1 a2 a3 (t144 != t145) a0 a1)))))) = some r := h
  clear h
  have HC5 := Aside0.mk H
  clear H
  go_enter Try.func4, Try.ntmps4
  go_upto_region 2 with (first | ((with_reducible refine gate_dst (N := 9) rfl ?_); refine box_event ?hg (N := 9) ?hd (cs := #[.bool false, .bool false]) (t := 22) ?hr ?_; (case hd => rfl); (case hg => rfl); (case hr => first | (go_simp; done) | (go_simp; rfl)); intro gb141 hg w6 hbox hb; have n0_ := Aside0.mk (below_step (by repeat (first | (with_reducible first | exact HB.out | apply below_alloc | apply pw_below_drewN | apply below_drew1) | exact HB.out)) hb); have n1_ := Aside0.mk (hbox); have n2_ := Aside0.mk ((by rw [hg]; exact (below_size (by repeat (first | (with_reducible first | exact HB.out | apply below_alloc | apply pw_below_drewN | apply below_drew1) | exact HB.out))) : w.heap.size ≤ gb141)); have n3_ := Aside0.mk ((by rw [hg]; exact (below_size (by repeat (first | (with_reducible first | exact HB.out | apply below_alloc | apply pw_below_drewN | apply below_drew1) | exact HB.out))) : w.heap.size ≤ gb141)); clear HB; have HB := n0_; have BK141 := n1_; have GW141 := n2_; have GE141 := n3_; clear n0_ n1_ n2_ n3_; clear hb hbox hg; have hcz7_0 : w6.cell? ⟨gb141, 0, none⟩ = some (.bool false) := (blk_cell BK141.out 0).trans rfl; have hcz7_1 : w6.cell? ⟨gb141, 1, none⟩ = some (.bool false) := (blk_cell BK141.out 1).trans rfl; have hfz7_0 := blk_frozen BK141.out 0; have hfz7_1 := blk_frozen BK141.out 1; have hsaz7_ : ∀ u, (w6.setCell ⟨gb141, 0, none⟩ u).cell? ⟨gb141, 1, none⟩ = some (.bool false) := (fun u => Eq.trans (World.cell?_setCell_other _ _ _ _ (by intro he; cases he)) hcz7_1); have hsbz7_ : ∀ u v, ((w6.setCell ⟨gb141, 0, none⟩ u).setCell ⟨gb141, 1, none⟩ v).cell? ⟨gb141, 1, none⟩ = some v := (fun u v => World.cell?_setCell_same _ _ _ (hsaz7_ u))))
  (try simp only [Act.put, List.setIfInBounds_toArray, List.set_cons_zero, List.set_cons_succ])
  go_cut [32] (fun v32 wc => ∃ (kq : Nat) (x32_4 : Bool), v32 = .bool x32_4 ∧ Aside0 (carousellaw18_FilterBoth.j0 kq a0 a1 a2 a3 x32_4 a0 a1 = some r) ∧ Aside0 (kq ≤ k) ∧ Aside0 (wc.heap[gb141]? = some (.cells #[.bool a0, .bool a1] 22 (0, 0))) ∧ Aside0 (Below w.heap.size w wc))
  case first =>
    have H := HC5.out
    clear HC5
    replace H := Option.bind_eq_some_iff.mp H
    obtain ⟨t142, A80, H⟩ := H
    replace H : ((filter_Data.f a0 a1 a3 a2).bind fun t143 => (if (t142 != t143) = true then (carousellaw18_FilterBoth.j0 k a0 a1 a2 a3 true a0 a1) else ((filter_Ring.f a0 a1 a2 a3).bind fun t144 => ((filter_Ring.f a0 a1 a3 a2).bind fun t145 => (carousellaw18_FilterBoth.j0 k a0 a1 a2 a3 (t144 != t145) a0 a1))))) = some r := H
    have A8 := Aside0.mk A80
    clear A80
    replace H := Option.bind_eq_some_iff.mp H
    obtain ⟨t143, A90, H⟩ := H
    replace H : (if (t142 != t143) = true then (carousellaw18_FilterBoth.j0 k a0 a1 a2 a3 true a0 a1) else ((filter_Ring.f a0 a1 a2 a3).bind fun t144 => ((filter_Ring.f a0 a1 a3 a2).bind fun t145 => (carousellaw18_FilterBoth.j0 k a0 a1 a2 a3 (t144 != t145) a0 a1)))) = some r := H
    have A9 := Aside0.mk A90
    clear A90
    by_cases c10 : (t142 != t143) = true
    · rw [if_pos c10] at H
      have c10b0 : (t142 != t143) = true := c10
      (try (have c10b1 : decide (t142 = t143) = false := by simpa using c10))
      (try (have c10b2 : (t142 == t143) = false := by simpa using c10))
      (try (have c10b3 : ¬ (t142 = t143) := by simpa using c10))
      clear c10
      (first | rw [c10b0] | (simp only [i64_w, i32_w]; rw [c10b0]) | skip)
      have H' := Aside0.mk H
      clear H
      try go_wp2
      have n0_ : Aside0 (((w6.setCell ⟨gb141, 0, none⟩ (.bool a0)).setCell ⟨gb141, 1, none⟩ (.bool a1)).heap[gb141]? = some (.cells #[.bool a0, .bool a1] 22 (0, 0))) := ⟨by (with_reducible repeat (first | refine blk_drewN ?_ _ | refine blk_drew ?_ | refine blk_alloc ?_ _)); refine blk_put (cs := #[.bool a0, .bool false]) ?_ 1 _ rfl; (with_reducible repeat (first | refine blk_drewN ?_ _ | refine blk_drew ?_ | refine blk_alloc ?_ _)); refine blk_put (cs := #[.bool false, .bool false]) ?_ 0 _ rfl; (with_reducible repeat (first | refine blk_drewN ?_ _ | refine blk_drew ?_ | refine blk_alloc ?_ _)); exact BK141.out⟩
      have n1_ : Aside0 (Below w.heap.size w ((w6.setCell ⟨gb141, 0, none⟩ (.bool a0)).setCell ⟨gb141, 1, none⟩ (.bool a1))) := ⟨by repeat (first | (with_reducible first | exact HB.out | apply below_alloc | apply pw_below_drewN | apply below_drew1 | refine below_set ?_ GE141.out) | exact HB.out)⟩
      (try clear BK141)
      (try clear HB)
      generalize ((w6.setCell ⟨gb141, 0, none⟩ (.bool a0)).setCell ⟨gb141, 1, none⟩ (.bool a1)) = w11 at n0_ n1_ ⊢
      have BK141 := n0_
      have HB := n1_
      clear n0_ n1_
      have n0_ := Aside0.mk (blk_drew BK141.out)
      have n1_ := Aside0.mk (below_drew1 HB.out)
      clear BK141
      clear HB
      have BK141 := n0_
      have HB := n1_
      clear n0_ n1_
      refine start_ (n := 20) (S := fun w' => w'.cell? ⟨gb141, 0, none⟩ = some (.bool a0) ∧ w'.cell? ⟨gb141, 1, none⟩ = some (.bool a1)) (ds := []) #[false, false, false, false, false, false, false, false, false, false, false, false, false, false, false, false, false, false, false, false] (by kernel_rfl) rfl rfl ⟨(blk_cell BK141.out 0).trans rfl, (blk_cell BK141.out 1).trans rfl⟩ (fun hHeld => ?_); refine with_tabW carousellaw18_FilterBoth.tab2 carousellaw18_FilterBoth.bits2 (fun HT_ HW_ => ?_)
      generalize w11.drew = w12 at BK141 HB hHeld ⊢
      refine pure_ (i := 1) (N := some 14) (v := ?_) (a' := ?_) #[false, true, false, false, false, false, false, false, false, false, false, false, false, false, false, false, false, false, false, false] rfl rfl (any_of HT_.out (by kernel_rfl)) (fun _ _ _ h => h) (Or.inl ⟨by rfl, ?_⟩) ?_ ?_
      rotate_left
      · intro w'
        go_simp
        with_reducible rfl
      rotate_left
      · simp only [Act.put, List.setIfInBounds_toArray, List.set_cons_zero, List.set_cons_succ, i64_w, i32_w]
        rfl
      refine pure_ (i := 2) (N := some 15) (v := ?_) (a' := ?_) #[false, true, true, false, false, false, false, false, false, false, false, false, false, false, false, false, false, false, false, false] rfl rfl (any_of HT_.out (by kernel_rfl)) (fun _ _ _ h => h) (Or.inl ⟨by rfl, ?_⟩) ?_ ?_
      rotate_left
      · intro w'
        go_simp
        with_reducible rfl
      rotate_left
      · simp only [Act.put, List.setIfInBounds_toArray, List.set_cons_zero, List.set_cons_succ, i64_w, i32_w]
        rfl
      refine pure_ (i := 5) (N := some 18) (v := ?_) (a' := ?_) #[false, true, true, false, false, true, false, false, false, false, false, false, false, false, false, false, false, false, false, false] rfl rfl (any_of HT_.out (by kernel_rfl)) (fun _ _ _ h => h) (Or.inl ⟨by rfl, ?_⟩) ?_ ?_
      rotate_left
      · intro w'
        go_simp
        with_reducible rfl
      rotate_left
      · simp only [Act.put, List.setIfInBounds_toArray, List.set_cons_zero, List.set_cons_succ, i64_w, i32_w]
        rfl
      refine pure_ (i := 6) (N := some 19) (v := ?_) (a' := ?_) #[false, true, true, false, false, true, true, false, false, false, false, false, false, false, false, false, false, false, false, false] rfl rfl (any_of HT_.out (by kernel_rfl)) (fun _ _ _ h => h) (Or.inl ⟨by rfl, ?_⟩) ?_ ?_
      rotate_left
      · intro w'
        go_simp
        with_reducible rfl
      rotate_left
      · simp only [Act.put, List.setIfInBounds_toArray, List.set_cons_zero, List.set_cons_succ, i64_w, i32_w]
        rfl
      refine take_ (i := 0) (N := some 13) (v := ?_) (a' := ?_) #[true, true, true, false, false, true, true, false, false, false, false, false, false, false, false, false, false, false, false, false] rfl rfl (take_ofW HT_.out HW_.out (by kernel_rfl)) (fun _ _ _ h => h) (Or.inl ⟨by rfl, ?_⟩) hHeld ?_ ?_
      rotate_left
      · rintro w' ⟨s0, s1⟩
        go_simp
        with_reducible rfl
      rotate_left
      · simp only [Act.put, List.setIfInBounds_toArray, List.set_cons_zero, List.set_cons_succ, i64_w, i32_w]
        rfl
      refine take_ (i := 4) (N := some 17) (v := ?_) (a' := ?_) #[true, true, true, false, true, true, true, false, false, false, false, false, false, false, false, false, false, false, false, false] rfl rfl (take_ofW HT_.out HW_.out (by kernel_rfl)) (fun _ _ _ h => h) (Or.inl ⟨by rfl, ?_⟩) hHeld ?_ ?_
      rotate_left
      · rintro w' ⟨s0, s1⟩
        go_simp
        with_reducible rfl
      rotate_left
      · simp only [Act.put, List.setIfInBounds_toArray, List.set_cons_zero, List.set_cons_succ, i64_w, i32_w]
        rfl
      refine one_ (i := 3) (N := some 16) #[true, true, true, true, true, true, true, false, false, false, false, false, false, false, false, false, false, false, false, false] rfl rfl (one_of HT_.out (by kernel_rfl)) (by decide) (fun K hK => ?_)
      refine goes_ Try.func14 (by kernel_rfl) rfl #[.agg #[.bool a0, .bool a1], .int .i64 a2, .int .i64 a3] (by rfl) rfl rfl (by (try simp only [List.map_toArray, List.map_cons, List.map_nil]); first | done | rfl | (simp only [List.length_drop, List.length_take]; rfl)) ?_
      with_reducible refine (filter_Data.calls a0 a1 a2 a3 t142 _ A8.out).mono ?_
      rintro e w13 ⟨rfl, hb⟩
      refine ⟨_, rfl, ?_⟩
      have n0_ := Aside0.mk (blk_below (g := gb141) (o := .cells #[.bool a0, .bool a1] 22 (0, 0)) (by (with_reducible repeat (first | refine blk_drewN ?_ _ | refine blk_drew ?_ | refine blk_alloc ?_ _)); exact BK141.out) hb)
      have n1_ := Aside0.mk (below_step (by repeat (first | (with_reducible first | exact HB.out | apply below_alloc | apply pw_below_drewN | apply below_drew1 | refine below_set ?_ GE141.out) | exact HB.out)) hb)
      clear BK141
      clear HB
      have BK141 := n0_
      have HB := n1_
      clear n0_ n1_
      (try clear hb)
      (try clear hb2)
      (try clear hk)
      (try clear hi)
      refine hK.out _ _ ⟨(blk_cell BK141.out 0).trans rfl, (blk_cell BK141.out 1).trans rfl⟩ (fun hHeld => ?_)
      clear hK K
      refine norm_ (a' := ?_) ?_ ?_
      rotate_left
      · show Act.put _ (some 16) _ = _
        simp only [Act.put, List.setIfInBounds_toArray, List.set_cons_zero, List.set_cons_succ, i64_w, i32_w]
        rfl
      refine one_ (i := 7) (N := some 20) #[true, true, true, true, true, true, true, true, false, false, false, false, false, false, false, false, false, false, false, false] rfl rfl (one_of HT_.out (by kernel_rfl)) (by decide) (fun K hK => ?_)
      refine goes_ Try.func14 (by kernel_rfl) rfl #[.agg #[.bool a0, .bool a1], .int .i64 a3, .int .i64 a2] (by rfl) rfl rfl (by (try simp only [List.map_toArray, List.map_cons, List.map_nil]); first | done | rfl | (simp only [List.length_drop, List.length_take]; rfl)) ?_
      with_reducible refine (filter_Data.calls a0 a1 a3 a2 t143 _ A9.out).mono ?_
      rintro e w14 ⟨rfl, hb⟩
      refine ⟨_, rfl, ?_⟩
      have n0_ := Aside0.mk (blk_below (g := gb141) (o := .cells #[.bool a0, .bool a1] 22 (0, 0)) (by (with_reducible repeat (first | refine blk_drewN ?_ _ | refine blk_drew ?_ | refine blk_alloc ?_ _)); exact BK141.out) hb)
      have n1_ := Aside0.mk (below_step (by repeat (first | (with_reducible first | exact HB.out | apply below_alloc | apply pw_below_drewN | apply below_drew1 | refine below_set ?_ GE141.out) | exact HB.out)) hb)
      clear BK141
      clear HB
      have BK141 := n0_
      have HB := n1_
      clear n0_ n1_
      (try clear hb)
      (try clear hb2)
      (try clear hk)
      (try clear hi)
      refine hK.out _ _ ⟨(blk_cell BK141.out 0).trans rfl, (blk_cell BK141.out 1).trans rfl⟩ (fun hHeld => ?_)
      clear hK K
      refine norm_ (a' := ?_) ?_ ?_
      rotate_left
      · show Act.put _ (some 20) _ = _
        simp only [Act.put, List.setIfInBounds_toArray, List.set_cons_zero, List.set_cons_succ, i64_w, i32_w]
        rfl
      refine pure_ (i := 8) (N := some 21) (v := ?_) (a' := ?_) #[true, true, true, true, true, true, true, true, true, false, false, false, false, false, false, false, false, false, false, false] rfl rfl (any_of HT_.out (by kernel_rfl)) (fun _ _ _ h => h) (Or.inl ⟨by rfl, ?_⟩) ?_ ?_
      rotate_left
      · intro w'
        go_simp
        with_reducible rfl
      rotate_left
      · simp only [Act.put, List.setIfInBounds_toArray, List.set_cons_zero, List.set_cons_succ, i64_w, i32_w]
        rfl
      refine pure_ (i := 9) (N := some 22) (v := ?_) (a' := ?_) #[true, true, true, true, true, true, true, true, true, true, false, false, false, false, false, false, false, false, false, false] rfl rfl (any_of HT_.out (by kernel_rfl)) (fun _ _ _ h => h) (Or.inl ⟨by rfl, ?_⟩) ?_ ?_
      rotate_left
      · intro w'
        go_simp
        with_reducible rfl
      rotate_left
      · simp only [Act.put, List.setIfInBounds_toArray, List.set_cons_zero, List.set_cons_succ, i64_w, i32_w]
        rfl
      refine pure_ (i := 10) (N := some 23) (v := undef) (a' := ?_) #[true, true, true, true, true, true, true, true, true, true, true, false, false, false, false, false, false, false, false, false] rfl rfl (any_of HT_.out (by kernel_rfl)) (fun _ _ _ h => h) (Or.inr ⟨by rfl, rfl⟩) ?_ ?_
      rotate_left
      · simp only [Act.put, List.setIfInBounds_toArray, List.set_cons_zero, List.set_cons_succ, i64_w, i32_w]
        rfl
      refine pure_ (i := 11) (N := some 24) (v := undef) (a' := ?_) #[true, true, true, true, true, true, true, true, true, true, true, true, false, false, false, false, false, false, false, false] rfl rfl (any_of HT_.out (by kernel_rfl)) (fun _ _ _ h => h) (Or.inr ⟨by rfl, rfl⟩) ?_ ?_
      rotate_left
      · simp only [Act.put, List.setIfInBounds_toArray, List.set_cons_zero, List.set_cons_succ, i64_w, i32_w]
        rfl
      refine pure_ (i := 12) (N := some 25) (v := undef) (a' := ?_) #[true, true, true, true, true, true, true, true, true, true, true, true, true, false, false, false, false, false, false, false] rfl rfl (any_of HT_.out (by kernel_rfl)) (fun _ _ _ h => h) (Or.inr ⟨by rfl, rfl⟩) ?_ ?_
      rotate_left
      · simp only [Act.put, List.setIfInBounds_toArray, List.set_cons_zero, List.set_cons_succ, i64_w, i32_w]
        rfl
      refine pure_ (i := 13) (N := some 26) (v := undef) (a' := ?_) #[true, true, true, true, true, true, true, true, true, true, true, true, true, true, false, false, false, false, false, false] rfl rfl (any_of HT_.out (by kernel_rfl)) (fun _ _ _ h => h) (Or.inr ⟨by rfl, rfl⟩) ?_ ?_
      rotate_left
      · simp only [Act.put, List.setIfInBounds_toArray, List.set_cons_zero, List.set_cons_succ, i64_w, i32_w]
        rfl
      refine pure_ (i := 14) (N := some 27) (v := undef) (a' := ?_) #[true, true, true, true, true, true, true, true, true, true, true, true, true, true, true, false, false, false, false, false] rfl rfl (any_of HT_.out (by kernel_rfl)) (fun _ _ _ h => h) (Or.inr ⟨by rfl, rfl⟩) ?_ ?_
      rotate_left
      · simp only [Act.put, List.setIfInBounds_toArray, List.set_cons_zero, List.set_cons_succ, i64_w, i32_w]
        rfl
      refine pure_ (i := 15) (N := some 28) (v := undef) (a' := ?_) #[true, true, true, true, true, true, true, true, true, true, true, true, true, true, true, true, false, false, false, false] rfl rfl (any_of HT_.out (by kernel_rfl)) (fun _ _ _ h => h) (Or.inr ⟨by rfl, rfl⟩) ?_ ?_
      rotate_left
      · simp only [Act.put, List.setIfInBounds_toArray, List.set_cons_zero, List.set_cons_succ, i64_w, i32_w]
        rfl
      refine pure_ (i := 16) (N := some 29) (v := undef) (a' := ?_) #[true, true, true, true, true, true, true, true, true, true, true, true, true, true, true, true, true, false, false, false] rfl rfl (any_of HT_.out (by kernel_rfl)) (fun _ _ _ h => h) (Or.inr ⟨by rfl, rfl⟩) ?_ ?_
      rotate_left
      · simp only [Act.put, List.setIfInBounds_toArray, List.set_cons_zero, List.set_cons_succ, i64_w, i32_w]
        rfl
      refine pure_ (i := 17) (N := some 30) (v := undef) (a' := ?_) #[true, true, true, true, true, true, true, true, true, true, true, true, true, true, true, true, true, true, false, false] rfl rfl (any_of HT_.out (by kernel_rfl)) (fun _ _ _ h => h) (Or.inr ⟨by rfl, rfl⟩) ?_ ?_
      rotate_left
      · simp only [Act.put, List.setIfInBounds_toArray, List.set_cons_zero, List.set_cons_succ, i64_w, i32_w]
        rfl
      refine pure_ (i := 18) (N := some 31) (v := undef) (a' := ?_) #[true, true, true, true, true, true, true, true, true, true, true, true, true, true, true, true, true, true, true, false] rfl rfl (any_of HT_.out (by kernel_rfl)) (fun _ _ _ h => h) (Or.inr ⟨by rfl, rfl⟩) ?_ ?_
      rotate_left
      · simp only [Act.put, List.setIfInBounds_toArray, List.set_cons_zero, List.set_cons_succ, i64_w, i32_w]
        rfl
      refine pure_ (i := 19) (N := some 32) (v := ?_) (a' := ?_) #[true, true, true, true, true, true, true, true, true, true, true, true, true, true, true, true, true, true, true, true] rfl rfl (any_of HT_.out (by kernel_rfl)) (fun _ _ _ h => h) (Or.inl ⟨by rfl, ?_⟩) ?_ ?_
      rotate_left
      · intro w'
        go_simp
        with_reducible rfl
      rotate_left
      · simp only [Act.put, List.setIfInBounds_toArray, List.set_cons_zero, List.set_cons_succ, i64_w, i32_w]
        rfl
      refine done_ (done_of HT_.out (by kernel_rfl)) ?_
      try go_wp2
      go_meet
      case rel => exact ⟨_, (true), (by first | rfl | (simp; done) | (simp [*]; done)), H', ⟨by first | omega | exact Nat.le_refl _⟩, ⟨by (with_reducible repeat (first | refine blk_drewN ?_ _ | refine blk_drew ?_ | refine blk_alloc ?_ _)); exact BK141.out⟩, ⟨by repeat (first | (with_reducible first | exact HB.out | apply below_alloc | apply pw_below_drewN | apply below_drew1 | refine below_set ?_ GE141.out) | exact HB.out)⟩⟩
    · rw [if_neg c10] at H
      have c10b0 : (t142 != t143) = false := by simpa using c10
      (try (have c10b1 : decide (t142 = t143) = true := by simpa using c10))
      (try (have c10b2 : (t142 == t143) = true := by simpa using c10))
      clear c10
      (first | rw [c10b0] | (simp only [i64_w, i32_w]; rw [c10b0]) | skip)
      replace H := Option.bind_eq_some_iff.mp H
      obtain ⟨t144, A150, H⟩ := H
      replace H : ((filter_Ring.f a0 a1 a3 a2).bind fun t145 => (carousellaw18_FilterBoth.j0 k a0 a1 a2 a3 (t144 != t145) a0 a1)) = some r := H
      have A15 := Aside0.mk A150
      clear A150
      replace H := Option.bind_eq_some_iff.mp H
      obtain ⟨t145, A160, H⟩ := H
      replace H : (carousellaw18_FilterBoth.j0 k a0 a1 a2 a3 (t144 != t145) a0 a1) = some r := H
      have A16 := Aside0.mk A160
      clear A160
      have H' := Aside0.mk H
      clear H
      try go_wp2
      have n0_ : Aside0 (((w6.setCell ⟨gb141, 0, none⟩ (.bool a0)).setCell ⟨gb141, 1, none⟩ (.bool a1)).heap[gb141]? = some (.cells #[.bool a0, .bool a1] 22 (0, 0))) := ⟨by (with_reducible repeat (first | refine blk_drewN ?_ _ | refine blk_drew ?_ | refine blk_alloc ?_ _)); refine blk_put (cs := #[.bool a0, .bool false]) ?_ 1 _ rfl; (with_reducible repeat (first | refine blk_drewN ?_ _ | refine blk_drew ?_ | refine blk_alloc ?_ _)); refine blk_put (cs := #[.bool false, .bool false]) ?_ 0 _ rfl; (with_reducible repeat (first | refine blk_drewN ?_ _ | refine blk_drew ?_ | refine blk_alloc ?_ _)); exact BK141.out⟩
      have n1_ : Aside0 (Below w.heap.size w ((w6.setCell ⟨gb141, 0, none⟩ (.bool a0)).setCell ⟨gb141, 1, none⟩ (.bool a1))) := ⟨by repeat (first | (with_reducible first | exact HB.out | apply below_alloc | apply pw_below_drewN | apply below_drew1 | refine below_set ?_ GE141.out) | exact HB.out)⟩
      (try clear BK141)
      (try clear HB)
      generalize ((w6.setCell ⟨gb141, 0, none⟩ (.bool a0)).setCell ⟨gb141, 1, none⟩ (.bool a1)) = w17 at n0_ n1_ ⊢
      have BK141 := n0_
      have HB := n1_
      clear n0_ n1_
      have n0_ := Aside0.mk (blk_drew BK141.out)
      have n1_ := Aside0.mk (below_drew1 HB.out)
      clear BK141
      clear HB
      have BK141 := n0_
      have HB := n1_
      clear n0_ n1_
      refine start_ (n := 20) (S := fun w' => w'.cell? ⟨gb141, 0, none⟩ = some (.bool a0) ∧ w'.cell? ⟨gb141, 1, none⟩ = some (.bool a1)) (ds := []) #[false, false, false, false, false, false, false, false, false, false, false, false, false, false, false, false, false, false, false, false] (by kernel_rfl) rfl rfl ⟨(blk_cell BK141.out 0).trans rfl, (blk_cell BK141.out 1).trans rfl⟩ (fun hHeld => ?_); refine with_tabW carousellaw18_FilterBoth.tab2 carousellaw18_FilterBoth.bits2 (fun HT_ HW_ => ?_)
      generalize w17.drew = w18 at BK141 HB hHeld ⊢
      refine pure_ (i := 1) (N := some 14) (v := ?_) (a' := ?_) #[false, true, false, false, false, false, false, false, false, false, false, false, false, false, false, false, false, false, false, false] rfl rfl (any_of HT_.out (by kernel_rfl)) (fun _ _ _ h => h) (Or.inl ⟨by rfl, ?_⟩) ?_ ?_
      rotate_left
      · intro w'
        go_simp
        with_reducible rfl
      rotate_left
      · simp only [Act.put, List.setIfInBounds_toArray, List.set_cons_zero, List.set_cons_succ, i64_w, i32_w]
        rfl
      refine pure_ (i := 2) (N := some 15) (v := ?_) (a' := ?_) #[false, true, true, false, false, false, false, false, false, false, false, false, false, false, false, false, false, false, false, false] rfl rfl (any_of HT_.out (by kernel_rfl)) (fun _ _ _ h => h) (Or.inl ⟨by rfl, ?_⟩) ?_ ?_
      rotate_left
      · intro w'
        go_simp
        with_reducible rfl
      rotate_left
      · simp only [Act.put, List.setIfInBounds_toArray, List.set_cons_zero, List.set_cons_succ, i64_w, i32_w]
        rfl
      refine pure_ (i := 5) (N := some 18) (v := ?_) (a' := ?_) #[false, true, true, false, false, true, false, false, false, false, false, false, false, false, false, false, false, false, false, false] rfl rfl (any_of HT_.out (by kernel_rfl)) (fun _ _ _ h => h) (Or.inl ⟨by rfl, ?_⟩) ?_ ?_
      rotate_left
      · intro w'
        go_simp
        with_reducible rfl
      rotate_left
      · simp only [Act.put, List.setIfInBounds_toArray, List.set_cons_zero, List.set_cons_succ, i64_w, i32_w]
        rfl
      refine pure_ (i := 6) (N := some 19) (v := ?_) (a' := ?_) #[false, true, true, false, false, true, true, false, false, false, false, false, false, false, false, false, false, false, false, false] rfl rfl (any_of HT_.out (by kernel_rfl)) (fun _ _ _ h => h) (Or.inl ⟨by rfl, ?_⟩) ?_ ?_
      rotate_left
      · intro w'
        go_simp
        with_reducible rfl
      rotate_left
      · simp only [Act.put, List.setIfInBounds_toArray, List.set_cons_zero, List.set_cons_succ, i64_w, i32_w]
        rfl
      refine take_ (i := 0) (N := some 13) (v := ?_) (a' := ?_) #[true, true, true, false, false, true, true, false, false, false, false, false, false, false, false, false, false, false, false, false] rfl rfl (take_ofW HT_.out HW_.out (by kernel_rfl)) (fun _ _ _ h => h) (Or.inl ⟨by rfl, ?_⟩) hHeld ?_ ?_
      rotate_left
      · rintro w' ⟨s0, s1⟩
        go_simp
        with_reducible rfl
      rotate_left
      · simp only [Act.put, List.setIfInBounds_toArray, List.set_cons_zero, List.set_cons_succ, i64_w, i32_w]
        rfl
      refine take_ (i := 4) (N := some 17) (v := ?_) (a' := ?_) #[true, true, true, false, true, true, true, false, false, false, false, false, false, false, false, false, false, false, false, false] rfl rfl (take_ofW HT_.out HW_.out (by kernel_rfl)) (fun _ _ _ h => h) (Or.inl ⟨by rfl, ?_⟩) hHeld ?_ ?_
      rotate_left
      · rintro w' ⟨s0, s1⟩
        go_simp
        with_reducible rfl
      rotate_left
      · simp only [Act.put, List.setIfInBounds_toArray, List.set_cons_zero, List.set_cons_succ, i64_w, i32_w]
        rfl
      refine one_ (i := 3) (N := some 16) #[true, true, true, true, true, true, true, false, false, false, false, false, false, false, false, false, false, false, false, false] rfl rfl (one_of HT_.out (by kernel_rfl)) (by decide) (fun K hK => ?_)
      refine goes_ Try.func14 (by kernel_rfl) rfl #[.agg #[.bool a0, .bool a1], .int .i64 a2, .int .i64 a3] (by rfl) rfl rfl (by (try simp only [List.map_toArray, List.map_cons, List.map_nil]); first | done | rfl | (simp only [List.length_drop, List.length_take]; rfl)) ?_
      with_reducible refine (filter_Data.calls a0 a1 a2 a3 t142 _ A8.out).mono ?_
      rintro e w19 ⟨rfl, hb⟩
      refine ⟨_, rfl, ?_⟩
      have n0_ := Aside0.mk (blk_below (g := gb141) (o := .cells #[.bool a0, .bool a1] 22 (0, 0)) (by (with_reducible repeat (first | refine blk_drewN ?_ _ | refine blk_drew ?_ | refine blk_alloc ?_ _)); exact BK141.out) hb)
      have n1_ := Aside0.mk (below_step (by repeat (first | (with_reducible first | exact HB.out | apply below_alloc | apply pw_below_drewN | apply below_drew1 | refine below_set ?_ GE141.out) | exact HB.out)) hb)
      clear BK141
      clear HB
      have BK141 := n0_
      have HB := n1_
      clear n0_ n1_
      (try clear hb)
      (try clear hb2)
      (try clear hk)
      (try clear hi)
      refine hK.out _ _ ⟨(blk_cell BK141.out 0).trans rfl, (blk_cell BK141.out 1).trans rfl⟩ (fun hHeld => ?_)
      clear hK K
      refine norm_ (a' := ?_) ?_ ?_
      rotate_left
      · show Act.put _ (some 16) _ = _
        simp only [Act.put, List.setIfInBounds_toArray, List.set_cons_zero, List.set_cons_succ, i64_w, i32_w]
        rfl
      refine one_ (i := 7) (N := some 20) #[true, true, true, true, true, true, true, true, false, false, false, false, false, false, false, false, false, false, false, false] rfl rfl (one_of HT_.out (by kernel_rfl)) (by decide) (fun K hK => ?_)
      refine goes_ Try.func14 (by kernel_rfl) rfl #[.agg #[.bool a0, .bool a1], .int .i64 a3, .int .i64 a2] (by rfl) rfl rfl (by (try simp only [List.map_toArray, List.map_cons, List.map_nil]); first | done | rfl | (simp only [List.length_drop, List.length_take]; rfl)) ?_
      with_reducible refine (filter_Data.calls a0 a1 a3 a2 t143 _ A9.out).mono ?_
      rintro e w20 ⟨rfl, hb⟩
      refine ⟨_, rfl, ?_⟩
      have n0_ := Aside0.mk (blk_below (g := gb141) (o := .cells #[.bool a0, .bool a1] 22 (0, 0)) (by (with_reducible repeat (first | refine blk_drewN ?_ _ | refine blk_drew ?_ | refine blk_alloc ?_ _)); exact BK141.out) hb)
      have n1_ := Aside0.mk (below_step (by repeat (first | (with_reducible first | exact HB.out | apply below_alloc | apply pw_below_drewN | apply below_drew1 | refine below_set ?_ GE141.out) | exact HB.out)) hb)
      clear BK141
      clear HB
      have BK141 := n0_
      have HB := n1_
      clear n0_ n1_
      (try clear hb)
      (try clear hb2)
      (try clear hk)
      (try clear hi)
      refine hK.out _ _ ⟨(blk_cell BK141.out 0).trans rfl, (blk_cell BK141.out 1).trans rfl⟩ (fun hHeld => ?_)
      clear hK K
      refine norm_ (a' := ?_) ?_ ?_
      rotate_left
      · show Act.put _ (some 20) _ = _
        simp only [Act.put, List.setIfInBounds_toArray, List.set_cons_zero, List.set_cons_succ, i64_w, i32_w]
        rfl
      refine pure_ (i := 8) (N := some 21) (v := ?_) (a' := ?_) #[true, true, true, true, true, true, true, true, true, false, false, false, false, false, false, false, false, false, false, false] rfl rfl (any_of HT_.out (by kernel_rfl)) (fun _ _ _ h => h) (Or.inl ⟨by rfl, ?_⟩) ?_ ?_
      rotate_left
      · intro w'
        go_simp
        with_reducible rfl
      rotate_left
      · simp only [Act.put, List.setIfInBounds_toArray, List.set_cons_zero, List.set_cons_succ, i64_w, i32_w]
        rfl
      refine pure_ (i := 9) (N := some 22) (v := ?_) (a' := ?_) #[true, true, true, true, true, true, true, true, true, true, false, false, false, false, false, false, false, false, false, false] rfl rfl (any_of HT_.out (by kernel_rfl)) (fun _ _ _ h => h) (Or.inl ⟨by rfl, ?_⟩) ?_ ?_
      rotate_left
      · intro w'
        go_simp
        with_reducible rfl
      rotate_left
      · simp only [Act.put, List.setIfInBounds_toArray, List.set_cons_zero, List.set_cons_succ, i64_w, i32_w]
        rfl
      refine pure_ (i := 11) (N := some 24) (v := ?_) (a' := ?_) #[true, true, true, true, true, true, true, true, true, true, false, true, false, false, false, false, false, false, false, false] rfl rfl (any_of HT_.out (by kernel_rfl)) (fun _ _ _ h => h) (Or.inl ⟨by rfl, ?_⟩) ?_ ?_
      rotate_left
      · intro w'
        go_simp
        with_reducible rfl
      rotate_left
      · simp only [Act.put, List.setIfInBounds_toArray, List.set_cons_zero, List.set_cons_succ, i64_w, i32_w]
        rfl
      refine pure_ (i := 12) (N := some 25) (v := ?_) (a' := ?_) #[true, true, true, true, true, true, true, true, true, true, false, true, true, false, false, false, false, false, false, false] rfl rfl (any_of HT_.out (by kernel_rfl)) (fun _ _ _ h => h) (Or.inl ⟨by rfl, ?_⟩) ?_ ?_
      rotate_left
      · intro w'
        go_simp
        with_reducible rfl
      rotate_left
      · simp only [Act.put, List.setIfInBounds_toArray, List.set_cons_zero, List.set_cons_succ, i64_w, i32_w]
        rfl
      refine pure_ (i := 15) (N := some 28) (v := ?_) (a' := ?_) #[true, true, true, true, true, true, true, true, true, true, false, true, true, false, false, true, false, false, false, false] rfl rfl (any_of HT_.out (by kernel_rfl)) (fun _ _ _ h => h) (Or.inl ⟨by rfl, ?_⟩) ?_ ?_
      rotate_left
      · intro w'
        go_simp
        with_reducible rfl
      rotate_left
      · simp only [Act.put, List.setIfInBounds_toArray, List.set_cons_zero, List.set_cons_succ, i64_w, i32_w]
        rfl
      refine pure_ (i := 16) (N := some 29) (v := ?_) (a' := ?_) #[true, true, true, true, true, true, true, true, true, true, false, true, true, false, false, true, true, false, false, false] rfl rfl (any_of HT_.out (by kernel_rfl)) (fun _ _ _ h => h) (Or.inl ⟨by rfl, ?_⟩) ?_ ?_
      rotate_left
      · intro w'
        go_simp
        with_reducible rfl
      rotate_left
      · simp only [Act.put, List.setIfInBounds_toArray, List.set_cons_zero, List.set_cons_succ, i64_w, i32_w]
        rfl
      refine take_ (i := 10) (N := some 23) (v := ?_) (a' := ?_) #[true, true, true, true, true, true, true, true, true, true, true, true, true, false, false, true, true, false, false, false] rfl rfl (take_ofW HT_.out HW_.out (by kernel_rfl)) (fun _ _ _ h => h) (Or.inl ⟨by rfl, ?_⟩) hHeld ?_ ?_
      rotate_left
      · rintro w' ⟨s0, s1⟩
        go_simp
        with_reducible rfl
      rotate_left
      · simp only [Act.put, List.setIfInBounds_toArray, List.set_cons_zero, List.set_cons_succ, i64_w, i32_w]
        rfl
      refine take_ (i := 14) (N := some 27) (v := ?_) (a' := ?_) #[true, true, true, true, true, true, true, true, true, true, true, true, true, false, true, true, true, false, false, false] rfl rfl (take_ofW HT_.out HW_.out (by kernel_rfl)) (fun _ _ _ h => h) (Or.inl ⟨by rfl, ?_⟩) hHeld ?_ ?_
      rotate_left
      · rintro w' ⟨s0, s1⟩
        go_simp
        with_reducible rfl
      rotate_left
      · simp only [Act.put, List.setIfInBounds_toArray, List.set_cons_zero, List.set_cons_succ, i64_w, i32_w]
        rfl
      refine one_ (i := 13) (N := some 26) #[true, true, true, true, true, true, true, true, true, true, true, true, true, true, true, true, true, false, false, false] rfl rfl (one_of HT_.out (by kernel_rfl)) (by decide) (fun K hK => ?_)
      refine goes_ Try.func16 (by kernel_rfl) rfl #[.agg #[.bool a0, .bool a1], .int .i64 a2, .int .i64 a3] (by rfl) rfl rfl (by (try simp only [List.map_toArray, List.map_cons, List.map_nil]); first | done | rfl | (simp only [List.length_drop, List.length_take]; rfl)) ?_
      with_reducible refine (filter_Ring.calls a0 a1 a2 a3 t144 _ A15.out).mono ?_
      rintro e w21 ⟨rfl, hb⟩
      refine ⟨_, rfl, ?_⟩
      have n0_ := Aside0.mk (blk_below (g := gb141) (o := .cells #[.bool a0, .bool a1] 22 (0, 0)) (by (with_reducible repeat (first | refine blk_drewN ?_ _ | refine blk_drew ?_ | refine blk_alloc ?_ _)); exact BK141.out) hb)
      have n1_ := Aside0.mk (below_step (by repeat (first | (with_reducible first | exact HB.out | apply below_alloc | apply pw_below_drewN | apply below_drew1 | refine below_set ?_ GE141.out) | exact HB.out)) hb)
      clear BK141
      clear HB
      have BK141 := n0_
      have HB := n1_
      clear n0_ n1_
      (try clear hb)
      (try clear hb2)
      (try clear hk)
      (try clear hi)
      refine hK.out _ _ ⟨(blk_cell BK141.out 0).trans rfl, (blk_cell BK141.out 1).trans rfl⟩ (fun hHeld => ?_)
      clear hK K
      refine norm_ (a' := ?_) ?_ ?_
      rotate_left
      · show Act.put _ (some 26) _ = _
        simp only [Act.put, List.setIfInBounds_toArray, List.set_cons_zero, List.set_cons_succ, i64_w, i32_w]
        rfl
      refine one_ (i := 17) (N := some 30) #[true, true, true, true, true, true, true, true, true, true, true, true, true, true, true, true, true, true, false, false] rfl rfl (one_of HT_.out (by kernel_rfl)) (by decide) (fun K hK => ?_)
      refine goes_ Try.func16 (by kernel_rfl) rfl #[.agg #[.bool a0, .bool a1], .int .i64 a3, .int .i64 a2] (by rfl) rfl rfl (by (try simp only [List.map_toArray, List.map_cons, List.map_nil]); first | done | rfl | (simp only [List.length_drop, List.length_take]; rfl)) ?_
      with_reducible refine (filter_Ring.calls a0 a1 a3 a2 t145 _ A16.out).mono ?_
      rintro e w22 ⟨rfl, hb⟩
      refine ⟨_, rfl, ?_⟩
      have n0_ := Aside0.mk (blk_below (g := gb141) (o := .cells #[.bool a0, .bool a1] 22 (0, 0)) (by (with_reducible repeat (first | refine blk_drewN ?_ _ | refine blk_drew ?_ | refine blk_alloc ?_ _)); exact BK141.out) hb)
      have n1_ := Aside0.mk (below_step (by repeat (first | (with_reducible first | exact HB.out | apply below_alloc | apply pw_below_drewN | apply below_drew1 | refine below_set ?_ GE141.out) | exact HB.out)) hb)
      clear BK141
      clear HB
      have BK141 := n0_
      have HB := n1_
      clear n0_ n1_
      (try clear hb)
      (try clear hb2)
      (try clear hk)
      (try clear hi)
      refine hK.out _ _ ⟨(blk_cell BK141.out 0).trans rfl, (blk_cell BK141.out 1).trans rfl⟩ (fun hHeld => ?_)
      clear hK K
      refine norm_ (a' := ?_) ?_ ?_
      rotate_left
      · show Act.put _ (some 30) _ = _
        simp only [Act.put, List.setIfInBounds_toArray, List.set_cons_zero, List.set_cons_succ, i64_w, i32_w]
        rfl
      refine pure_ (i := 18) (N := some 31) (v := ?_) (a' := ?_) #[true, true, true, true, true, true, true, true, true, true, true, true, true, true, true, true, true, true, true, false] rfl rfl (any_of HT_.out (by kernel_rfl)) (fun _ _ _ h => h) (Or.inl ⟨by rfl, ?_⟩) ?_ ?_
      rotate_left
      · intro w'
        go_simp
        with_reducible rfl
      rotate_left
      · simp only [Act.put, List.setIfInBounds_toArray, List.set_cons_zero, List.set_cons_succ, i64_w, i32_w]
        rfl
      refine pure_ (i := 19) (N := some 32) (v := ?_) (a' := ?_) #[true, true, true, true, true, true, true, true, true, true, true, true, true, true, true, true, true, true, true, true] rfl rfl (any_of HT_.out (by kernel_rfl)) (fun _ _ _ h => h) (Or.inl ⟨by rfl, ?_⟩) ?_ ?_
      rotate_left
      · intro w'
        go_simp
        with_reducible rfl
      rotate_left
      · simp only [Act.put, List.setIfInBounds_toArray, List.set_cons_zero, List.set_cons_succ, i64_w, i32_w]
        rfl
      refine done_ (done_of HT_.out (by kernel_rfl)) ?_
      try go_wp2
      go_meet
      case rel => exact ⟨_, ((t144 != t145)), (by first | rfl | (simp; done) | (simp [*]; done)), H', ⟨by first | omega | exact Nat.le_refl _⟩, ⟨by (with_reducible repeat (first | refine blk_drewN ?_ _ | refine blk_drew ?_ | refine blk_alloc ?_ _)); exact BK141.out⟩, ⟨by repeat (first | (with_reducible first | exact HB.out | apply below_alloc | apply pw_below_drewN | apply below_drew1 | refine below_set ?_ GE141.out) | exact HB.out)⟩⟩
  case rest =>
    clear HC5
    try clear c1
    try clear p2
    try clear c4
    try clear c10
    try clear c10b0
    try clear c10b1
    try clear c10b2
    try clear c14
    try clear c16
    try clear hcz7_0
    try clear hcz7_1
    try clear hfz7_0
    try clear hfz7_1
    obtain ⟨kq, x32_4, rfl, HA, HJ4, BK141, HB⟩ := hcut
    cases kq with
    | zero => exact absurd HA.out (by simp [carousellaw18_FilterBoth.j0])
    | succ kj4 =>
      have H := HA.out
      clear HA
      simp only [carousellaw18_FilterBoth.j0] at H
      by_cases c23 : x32_4 = true
      · subst c23
        have H1 : (some false) = some r := by rw [if_pos rfl] at H; exact H
        clear H
        have H := H1
        clear H1
        obtain rfl := Option.some.inj H
        go_wp2
        go_ret
        exact ⟨by first | rfl | (simp [errW_none, errW_some] <;> rfl) | (simp [*, errW_none, errW_some] <;> rfl), by repeat (first | (with_reducible first | exact HB.out | apply below_alloc | apply pw_below_drewN | apply below_drew1 | refine below_set ?_ GE141.out) | exact HB.out)⟩
      · replace c23 := Bool.eq_false_iff.mpr c23
        subst c23
        have H1 : ((carousellaw18_Awake.f kj4).bind fun t146 => (if t146 = true then ((filter_Ring.f a0 a1 0 1).bind fun t147 => (if a0 = true then (if (t147 == false) = true then ((filter_Ring.f a0 a1 a2 a3).bind fun t148 => (if t148 = true then (some false) else ((filter_Data.f a0 a1 a2 a2).bind fun t149 => (some (!t149))))) else (some false)) else (if (t147 == (!a1)) = true then (if a1 = true then ((filter_Ring.f a0 a1 a2 a3).bind fun t150 => (if t150 = true then (some false) else ((filter_Data.f a0 a1 a2 a2).bind fun t151 => (some (!t151))))) else ((filter_Data.f a0 a1 a2 a2).bind fun t152 => (some (!t152)))) else (some false)))) else (some false))) = some r := by rw [if_neg (show ¬ (false = true) by decide)] at H; exact H
        clear H
        have H := H1
        clear H1
        replace H := Option.bind_eq_some_iff.mp H
        obtain ⟨t146, A240, H⟩ := H
        replace H : (if t146 = true then ((filter_Ring.f a0 a1 0 1).bind fun t147 => (if a0 = true then (if (t147 == false) = true then ((filter_Ring.f a0 a1 a2 a3).bind fun t148 => (if t148 = true then (some false) else ((filter_Data.f a0 a1 a2 a2).bind fun t149 => (some (!t149))))) else (some false)) else (if (t147 == (!a1)) = true then (if a1 = true then ((filter_Ring.f a0 a1 a2 a3).bind fun t150 => (if t150 = true then (some false) else ((filter_Data.f a0 a1 a2 a2).bind fun t151 => (some (!t151))))) else ((filter_Data.f a0 a1 a2 a2).bind fun t152 => (some (!t152)))) else (some false)))) else (some false)) = some r := H
        have A24 := Aside0.mk A240
        clear A240
        by_cases c25 : t146 = true
        · subst c25
          have H1 : ((filter_Ring.f a0 a1 0 1).bind fun t147 => (if a0 = true then (if (t147 == false) = true then ((filter_Ring.f a0 a1 a2 a3).bind fun t148 => (if t148 = true then (some false) else ((filter_Data.f a0 a1 a2 a2).bind fun t149 => (some (!t149))))) else (some false)) else (if (t147 == (!a1)) = true then (if a1 = true then ((filter_Ring.f a0 a1 a2 a3).bind fun t150 => (if t150 = true then (some false) else ((filter_Data.f a0 a1 a2 a2).bind fun t151 => (some (!t151))))) else ((filter_Data.f a0 a1 a2 a2).bind fun t152 => (some (!t152)))) else (some false)))) = some r := by rw [if_pos rfl] at H; exact H
          clear H
          have H := H1
          clear H1
          replace H := Option.bind_eq_some_iff.mp H
          obtain ⟨t147, A260, H⟩ := H
          replace H : (if a0 = true then (if (t147 == false) = true then ((filter_Ring.f a0 a1 a2 a3).bind fun t148 => (if t148 = true then (some false) else ((filter_Data.f a0 a1 a2 a2).bind fun t149 => (some (!t149))))) else (some false)) else (if (t147 == (!a1)) = true then (if a1 = true then ((filter_Ring.f a0 a1 a2 a3).bind fun t150 => (if t150 = true then (some false) else ((filter_Data.f a0 a1 a2 a2).bind fun t151 => (some (!t151))))) else ((filter_Data.f a0 a1 a2 a2).bind fun t152 => (some (!t152)))) else (some false))) = some r := H
          have A26 := Aside0.mk A260
          clear A260
          by_cases c27 : a0 = true
          · subst c27
            have H1 : (if (t147 == false) = true then ((filter_Ring.f true a1 a2 a3).bind fun t148 => (if t148 = true then (some false) else ((filter_Data.f true a1 a2 a2).bind fun t149 => (some (!t149))))) else (some false)) = some r := by rw [if_pos rfl] at H; exact H
            clear H
            have H := H1
            clear H1
            by_cases c28 : (t147 == false) = true
            · rw [if_pos c28] at H
              have c28b0 : (t147 == false) = true := c28
              (try (have c28b1 : decide (t147 = false) = true := by simpa using c28))
              (try (have c28b2 : (t147 == false) = true := by simpa using c28))
              clear c28
              replace H := Option.bind_eq_some_iff.mp H
              obtain ⟨t148, A290, H⟩ := H
              replace H : (if t148 = true then (some false) else ((filter_Data.f true a1 a2 a2).bind fun t149 => (some (!t149)))) = some r := H
              have A29 := Aside0.mk A290
              clear A290
              by_cases c30 : t148 = true
              · subst c30
                have H1 : (some false) = some r := by rw [if_pos rfl] at H; exact H
                clear H
                have H := H1
                clear H1
                obtain rfl := Option.some.inj H
                go_wp2_with (first | ((with_reducible refine gate_callee (f := 11) rfl ?_); refine goesL_ (some 33) rfl rfl Try.func11 (by kernel_rfl) rfl #[] rfl (by (try simp only [List.map_toArray, List.map_cons, List.map_nil]); first | done | rfl | (simp only [List.length_drop, List.length_take]; rfl)) ?_; (with_reducible refine (carousellaw18_Awake.calls kj4  true _ A24.out).mono ?_); rintro e w31 ⟨rfl, hb⟩; refine ⟨_, rfl, ?_⟩; have n0_ := Aside0.mk (blk_below (g := gb141) (o := .cells #[.bool true, .bool a1] 22 (0, 0)) (by (with_reducible repeat (first | refine blk_drewN ?_ _ | refine blk_drew ?_ | refine blk_alloc ?_ _)); exact BK141.out) hb); have n1_ := Aside0.mk (below_step (by repeat (first | (with_reducible first | exact HB.out | apply below_alloc | apply pw_below_drewN | apply below_drew1 | refine below_set ?_ GE141.out) | exact HB.out)) hb); clear BK141; clear HB; have BK141 := n0_; have HB := n1_; clear n0_ n1_; (try clear hb); (try clear hb2); (try clear hk); (try clear hi); have hcz32_0 : w31.cell? ⟨gb141, 0, none⟩ = some (.bool true) := (blk_cell BK141.out 0).trans rfl; have hcz32_1 : w31.cell? ⟨gb141, 1, none⟩ = some (.bool a1) := (blk_cell BK141.out 1).trans rfl; have hfz32_0 := blk_frozen BK141.out 0; have hfz32_1 := blk_frozen BK141.out 1; have hsaz32_ : ∀ u, (w31.setCell ⟨gb141, 0, none⟩ u).cell? ⟨gb141, 1, none⟩ = some (.bool a1) := (fun u => Eq.trans (World.cell?_setCell_other _ _ _ _ (by intro he; cases he)) hcz32_1); have hsbz32_ : ∀ u v, ((w31.setCell ⟨gb141, 0, none⟩ u).setCell ⟨gb141, 1, none⟩ v).cell? ⟨gb141, 1, none⟩ = some v := (fun u v => World.cell?_setCell_same _ _ _ (hsaz32_ u))) | (go_at_call 16; (with_reducible refine (filter_Ring.calls true a1 0 1 t147 _ A26.out).mono ?_); rintro e w33 ⟨rfl, hb⟩; have n0_ := Aside0.mk (blk_below (g := gb141) (o := .cells #[.bool true, .bool a1] 22 (0, 0)) (by (with_reducible repeat (first | refine blk_drewN ?_ _ | refine blk_drew ?_ | refine blk_alloc ?_ _)); exact BK141.out) hb); have n1_ := Aside0.mk (below_step (by repeat (first | (with_reducible first | exact HB.out | apply below_alloc | apply pw_below_drewN | apply below_drew1 | refine below_set ?_ GE141.out) | exact HB.out)) hb); clear BK141; clear HB; have BK141 := n0_; have HB := n1_; clear n0_ n1_; (try clear hb); (try clear hb2); (try clear hk); (try clear hi); have hcz34_0 : w33.cell? ⟨gb141, 0, none⟩ = some (.bool true) := (blk_cell BK141.out 0).trans rfl; have hcz34_1 : w33.cell? ⟨gb141, 1, none⟩ = some (.bool a1) := (blk_cell BK141.out 1).trans rfl; have hfz34_0 := blk_frozen BK141.out 0; have hfz34_1 := blk_frozen BK141.out 1; have hsaz34_ : ∀ u, (w33.setCell ⟨gb141, 0, none⟩ u).cell? ⟨gb141, 1, none⟩ = some (.bool a1) := (fun u => Eq.trans (World.cell?_setCell_other _ _ _ _ (by intro he; cases he)) hcz34_1); have hsbz34_ : ∀ u v, ((w33.setCell ⟨gb141, 0, none⟩ u).setCell ⟨gb141, 1, none⟩ v).cell? ⟨gb141, 1, none⟩ = some v := (fun u v => World.cell?_setCell_same _ _ _ (hsaz34_ u))) | (go_at_call 16; (with_reducible refine (filter_Ring.calls true a1 a2 a3 true _ A29.out).mono ?_); rintro e w35 ⟨rfl, hb⟩; have n0_ := Aside0.mk (blk_below (g := gb141) (o := .cells #[.bool true, .bool a1] 22 (0, 0)) (by (with_reducible repeat (first | refine blk_drewN ?_ _ | refine blk_drew ?_ | refine blk_alloc ?_ _)); exact BK141.out) hb); have n1_ := Aside0.mk (below_step (by repeat (first | (with_reducible first | exact HB.out | apply below_alloc | apply pw_below_drewN | apply below_drew1 | refine below_set ?_ GE141.out) | exact HB.out)) hb); clear BK141; clear HB; have BK141 := n0_; have HB := n1_; clear n0_ n1_; (try clear hb); (try clear hb2); (try clear hk); (try clear hi)))
                go_ret
                exact ⟨by first | rfl | (simp [errW_none, errW_some] <;> rfl) | (simp [*, errW_none, errW_some] <;> rfl), by repeat (first | (with_reducible first | exact HB.out | apply below_alloc | apply pw_below_drewN | apply below_drew1 | refine below_set ?_ GE141.out) | exact HB.out)⟩
              · replace c30 := Bool.eq_false_iff.mpr c30
                subst c30
                have H1 : ((filter_Data.f true a1 a2 a2).bind fun t149 => (some (!t149))) = some r := by rw [if_neg (show ¬ (false = true) by decide)] at H; exact H
                clear H
                have H := H1
                clear H1
                replace H := Option.bind_eq_some_iff.mp H
                obtain ⟨t149, A360, H⟩ := H
                replace H : (some (!t149)) = some r := H
                have A36 := Aside0.mk A360
                clear A360
                obtain rfl := Option.some.inj H
                go_wp2_with (first | ((with_reducible refine gate_callee (f := 11) rfl ?_); refine goesL_ (some 33) rfl rfl Try.func11 (by kernel_rfl) rfl #[] rfl (by (try simp only [List.map_toArray, List.map_cons, List.map_nil]); first | done | rfl | (simp only [List.length_drop, List.length_take]; rfl)) ?_; (with_reducible refine (carousellaw18_Awake.calls kj4  true _ A24.out).mono ?_); rintro e w37 ⟨rfl, hb⟩; refine ⟨_, rfl, ?_⟩; have n0_ := Aside0.mk (blk_below (g := gb141) (o := .cells #[.bool true, .bool a1] 22 (0, 0)) (by (with_reducible repeat (first | refine blk_drewN ?_ _ | refine blk_drew ?_ | refine blk_alloc ?_ _)); exact BK141.out) hb); have n1_ := Aside0.mk (below_step (by repeat (first | (with_reducible first | exact HB.out | apply below_alloc | apply pw_below_drewN | apply below_drew1 | refine below_set ?_ GE141.out) | exact HB.out)) hb); clear BK141; clear HB; have BK141 := n0_; have HB := n1_; clear n0_ n1_; (try clear hb); (try clear hb2); (try clear hk); (try clear hi); have hcz38_0 : w37.cell? ⟨gb141, 0, none⟩ = some (.bool true) := (blk_cell BK141.out 0).trans rfl; have hcz38_1 : w37.cell? ⟨gb141, 1, none⟩ = some (.bool a1) := (blk_cell BK141.out 1).trans rfl; have hfz38_0 := blk_frozen BK141.out 0; have hfz38_1 := blk_frozen BK141.out 1; have hsaz38_ : ∀ u, (w37.setCell ⟨gb141, 0, none⟩ u).cell? ⟨gb141, 1, none⟩ = some (.bool a1) := (fun u => Eq.trans (World.cell?_setCell_other _ _ _ _ (by intro he; cases he)) hcz38_1); have hsbz38_ : ∀ u v, ((w37.setCell ⟨gb141, 0, none⟩ u).setCell ⟨gb141, 1, none⟩ v).cell? ⟨gb141, 1, none⟩ = some v := (fun u v => World.cell?_setCell_same _ _ _ (hsaz38_ u))) | (go_at_call 16; (with_reducible refine (filter_Ring.calls true a1 0 1 t147 _ A26.out).mono ?_); rintro e w39 ⟨rfl, hb⟩; have n0_ := Aside0.mk (blk_below (g := gb141) (o := .cells #[.bool true, .bool a1] 22 (0, 0)) (by (with_reducible repeat (first | refine blk_drewN ?_ _ | refine blk_drew ?_ | refine blk_alloc ?_ _)); exact BK141.out) hb); have n1_ := Aside0.mk (below_step (by repeat (first | (with_reducible first | exact HB.out | apply below_alloc | apply pw_below_drewN | apply below_drew1 | refine below_set ?_ GE141.out) | exact HB.out)) hb); clear BK141; clear HB; have BK141 := n0_; have HB := n1_; clear n0_ n1_; (try clear hb); (try clear hb2); (try clear hk); (try clear hi); have hcz40_0 : w39.cell? ⟨gb141, 0, none⟩ = some (.bool true) := (blk_cell BK141.out 0).trans rfl; have hcz40_1 : w39.cell? ⟨gb141, 1, none⟩ = some (.bool a1) := (blk_cell BK141.out 1).trans rfl; have hfz40_0 := blk_frozen BK141.out 0; have hfz40_1 := blk_frozen BK141.out 1; have hsaz40_ : ∀ u, (w39.setCell ⟨gb141, 0, none⟩ u).cell? ⟨gb141, 1, none⟩ = some (.bool a1) := (fun u => Eq.trans (World.cell?_setCell_other _ _ _ _ (by intro he; cases he)) hcz40_1); have hsbz40_ : ∀ u v, ((w39.setCell ⟨gb141, 0, none⟩ u).setCell ⟨gb141, 1, none⟩ v).cell? ⟨gb141, 1, none⟩ = some v := (fun u v => World.cell?_setCell_same _ _ _ (hsaz40_ u))) | (go_at_call 16; (with_reducible refine (filter_Ring.calls true a1 a2 a3 false _ A29.out).mono ?_); rintro e w41 ⟨rfl, hb⟩; have n0_ := Aside0.mk (blk_below (g := gb141) (o := .cells #[.bool true, .bool a1] 22 (0, 0)) (by (with_reducible repeat (first | refine blk_drewN ?_ _ | refine blk_drew ?_ | refine blk_alloc ?_ _)); exact BK141.out) hb); have n1_ := Aside0.mk (below_step (by repeat (first | (with_reducible first | exact HB.out | apply below_alloc | apply pw_below_drewN | apply below_drew1 | refine below_set ?_ GE141.out) | exact HB.out)) hb); clear BK141; clear HB; have BK141 := n0_; have HB := n1_; clear n0_ n1_; (try clear hb); (try clear hb2); (try clear hk); (try clear hi); have hcz42_0 : w41.cell? ⟨gb141, 0, none⟩ = some (.bool true) := (blk_cell BK141.out 0).trans rfl; have hcz42_1 : w41.cell? ⟨gb141, 1, none⟩ = some (.bool a1) := (blk_cell BK141.out 1).trans rfl; have hfz42_0 := blk_frozen BK141.out 0; have hfz42_1 := blk_frozen BK141.out 1; have hsaz42_ : ∀ u, (w41.setCell ⟨gb141, 0, none⟩ u).cell? ⟨gb141, 1, none⟩ = some (.bool a1) := (fun u => Eq.trans (World.cell?_setCell_other _ _ _ _ (by intro he; cases he)) hcz42_1); have hsbz42_ : ∀ u v, ((w41.setCell ⟨gb141, 0, none⟩ u).setCell ⟨gb141, 1, none⟩ v).cell? ⟨gb141, 1, none⟩ = some v := (fun u v => World.cell?_setCell_same _ _ _ (hsaz42_ u))) | (go_at_call 14; (with_reducible refine (filter_Data.calls true a1 a2 a2 t149 _ A36.out).mono ?_); rintro e w43 ⟨rfl, hb⟩; have n0_ := Aside0.mk (blk_below (g := gb141) (o := .cells #[.bool true, .bool a1] 22 (0, 0)) (by (with_reducible repeat (first | refine blk_drewN ?_ _ | refine blk_drew ?_ | refine blk_alloc ?_ _)); exact BK141.out) hb); have n1_ := Aside0.mk (below_step (by repeat (first | (with_reducible first | exact HB.out | apply below_alloc | apply pw_below_drewN | apply below_drew1 | refine below_set ?_ GE141.out) | exact HB.out)) hb); clear BK141; clear HB; have BK141 := n0_; have HB := n1_; clear n0_ n1_; (try clear hb); (try clear hb2); (try clear hk); (try clear hi)))
                go_ret
                exact ⟨by first | rfl | (simp [errW_none, errW_some] <;> rfl) | (simp [*, errW_none, errW_some] <;> rfl), by repeat (first | (with_reducible first | exact HB.out | apply below_alloc | apply pw_below_drewN | apply below_drew1 | refine below_set ?_ GE141.out) | exact HB.out)⟩
            · rw [if_neg c28] at H
              have c28b0 : (t147 == false) = false := by simpa using c28
              (try (have c28b1 : decide (t147 = false) = false := by simpa using c28))
              (try (have c28b2 : (t147 == false) = false := by simpa using c28))
              (try (have c28b3 : ¬ (t147 = false) := by simpa using c28))
              clear c28
              obtain rfl := Option.some.inj H
              go_wp2_with (first | ((with_reducible refine gate_callee (f := 11) rfl ?_); refine goesL_ (some 33) rfl rfl Try.func11 (by kernel_rfl) rfl #[] rfl (by (try simp only [List.map_toArray, List.map_cons, List.map_nil]); first | done | rfl | (simp only [List.length_drop, List.length_take]; rfl)) ?_; (with_reducible refine (carousellaw18_Awake.calls kj4  true _ A24.out).mono ?_); rintro e w44 ⟨rfl, hb⟩; refine ⟨_, rfl, ?_⟩; have n0_ := Aside0.mk (blk_below (g := gb141) (o := .cells #[.bool true, .bool a1] 22 (0, 0)) (by (with_reducible repeat (first | refine blk_drewN ?_ _ | refine blk_drew ?_ | refine blk_alloc ?_ _)); exact BK141.out) hb); have n1_ := Aside0.mk (below_step (by repeat (first | (with_reducible first | exact HB.out | apply below_alloc | apply pw_below_drewN | apply below_drew1 | refine below_set ?_ GE141.out) | exact HB.out)) hb); clear BK141; clear HB; have BK141 := n0_; have HB := n1_; clear n0_ n1_; (try clear hb); (try clear hb2); (try clear hk); (try clear hi); have hcz45_0 : w44.cell? ⟨gb141, 0, none⟩ = some (.bool true) := (blk_cell BK141.out 0).trans rfl; have hcz45_1 : w44.cell? ⟨gb141, 1, none⟩ = some (.bool a1) := (blk_cell BK141.out 1).trans rfl; have hfz45_0 := blk_frozen BK141.out 0; have hfz45_1 := blk_frozen BK141.out 1; have hsaz45_ : ∀ u, (w44.setCell ⟨gb141, 0, none⟩ u).cell? ⟨gb141, 1, none⟩ = some (.bool a1) := (fun u => Eq.trans (World.cell?_setCell_other _ _ _ _ (by intro he; cases he)) hcz45_1); have hsbz45_ : ∀ u v, ((w44.setCell ⟨gb141, 0, none⟩ u).setCell ⟨gb141, 1, none⟩ v).cell? ⟨gb141, 1, none⟩ = some v := (fun u v => World.cell?_setCell_same _ _ _ (hsaz45_ u))) | (go_at_call 16; (with_reducible refine (filter_Ring.calls true a1 0 1 t147 _ A26.out).mono ?_); rintro e w46 ⟨rfl, hb⟩; have n0_ := Aside0.mk (blk_below (g := gb141) (o := .cells #[.bool true, .bool a1] 22 (0, 0)) (by (with_reducible repeat (first | refine blk_drewN ?_ _ | refine blk_drew ?_ | refine blk_alloc ?_ _)); exact BK141.out) hb); have n1_ := Aside0.mk (below_step (by repeat (first | (with_reducible first | exact HB.out | apply below_alloc | apply pw_below_drewN | apply below_drew1 | refine below_set ?_ GE141.out) | exact HB.out)) hb); clear BK141; clear HB; have BK141 := n0_; have HB := n1_; clear n0_ n1_; (try clear hb); (try clear hb2); (try clear hk); (try clear hi)))
              go_ret
              exact ⟨by first | rfl | (simp [errW_none, errW_some] <;> rfl) | (simp [*, errW_none, errW_some] <;> rfl), by repeat (first | (with_reducible first | exact HB.out | apply below_alloc | apply pw_below_drewN | apply below_drew1 | refine below_set ?_ GE141.out) | exact HB.out)⟩
          · replace c27 := Bool.eq_false_iff.mpr c27
            subst c27
            have H1 : (if (t147 == (!a1)) = true then (if a1 = true then ((filter_Ring.f false a1 a2 a3).bind fun t150 => (if t150 = true then (some false) else ((filter_Data.f false a1 a2 a2).bind fun t151 => (some (!t151))))) else ((filter_Data.f false a1 a2 a2).bind fun t152 => (some (!t152)))) else (some false)) = some r := by rw [if_neg (show ¬ (false = true) by decide)] at H; exact H
            clear H
            have H := H1
            clear H1
            by_cases c47 : (t147 == (!a1)) = true
            · rw [if_pos c47] at H
              have c47b0 : (t147 == (!a1)) = true := c47
              (try (have c47b1 : decide (t147 = (!a1)) = true := by simpa using c47))
              (try (have c47b2 : (t147 == (!a1)) = true := by simpa using c47))
              clear c47
              by_cases c48 : a1 = true
              · subst c48
                have ht_ : t147 = false := by simpa using c47b0
                have H1 : ((filter_Ring.f false true a2 a3).bind fun t150 => (if t150 = true then (some false) else ((filter_Data.f false true a2 a2).bind fun t151 => (some (!t151))))) = some r := by rw [if_pos rfl] at H; exact H
                clear H
                have H := H1
                clear H1
                replace H := Option.bind_eq_some_iff.mp H
                obtain ⟨t150, A490, H⟩ := H
                replace H : (if t150 = true then (some false) else ((filter_Data.f false true a2 a2).bind fun t151 => (some (!t151)))) = some r := H
                have A49 := Aside0.mk A490
                clear A490
                by_cases c50 : t150 = true
                · subst c50
                  have H1 : (some false) = some r := by rw [if_pos rfl] at H; exact H
                  clear H
                  have H := H1
                  clear H1
                  obtain rfl := Option.some.inj H
                  go_wp2_with (first | ((with_reducible refine gate_callee (f := 11) rfl ?_); refine goesL_ (some 33) rfl rfl Try.func11 (by kernel_rfl) rfl #[] rfl (by (try simp only [List.map_toArray, List.map_cons, List.map_nil]); first | done | rfl | (simp only [List.length_drop, List.length_take]; rfl)) ?_; (with_reducible refine (carousellaw18_Awake.calls kj4  true _ A24.out).mono ?_); rintro e w51 ⟨rfl, hb⟩; refine ⟨_, rfl, ?_⟩; have n0_ := Aside0.mk (blk_below (g := gb141) (o := .cells #[.bool false, .bool true] 22 (0, 0)) (by (with_reducible repeat (first | refine blk_drewN ?_ _ | refine blk_drew ?_ | refine blk_alloc ?_ _)); exact BK141.out) hb); have n1_ := Aside0.mk (below_step (by repeat (first | (with_reducible first | exact HB.out | apply below_alloc | apply pw_below_drewN | apply below_drew1 | refine below_set ?_ GE141.out) | exact HB.out)) hb); clear BK141; clear HB; have BK141 := n0_; have HB := n1_; clear n0_ n1_; (try clear hb); (try clear hb2); (try clear hk); (try clear hi); have hcz52_0 : w51.cell? ⟨gb141, 0, none⟩ = some (.bool false) := (blk_cell BK141.out 0).trans rfl; have hcz52_1 : w51.cell? ⟨gb141, 1, none⟩ = some (.bool true) := (blk_cell BK141.out 1).trans rfl; have hfz52_0 := blk_frozen BK141.out 0; have hfz52_1 := blk_frozen BK141.out 1; have hsaz52_ : ∀ u, (w51.setCell ⟨gb141, 0, none⟩ u).cell? ⟨gb141, 1, none⟩ = some (.bool true) := (fun u => Eq.trans (World.cell?_setCell_other _ _ _ _ (by intro he; cases he)) hcz52_1); have hsbz52_ : ∀ u v, ((w51.setCell ⟨gb141, 0, none⟩ u).setCell ⟨gb141, 1, none⟩ v).cell? ⟨gb141, 1, none⟩ = some v := (fun u v => World.cell?_setCell_same _ _ _ (hsaz52_ u))) | (go_at_call 16; (with_reducible refine (filter_Ring.calls false true 0 1 t147 _ A26.out).mono ?_); rintro e w53 ⟨rfl, hb⟩; have n0_ := Aside0.mk (blk_below (g := gb141) (o := .cells #[.bool false, .bool true] 22 (0, 0)) (by (with_reducible repeat (first | refine blk_drewN ?_ _ | refine blk_drew ?_ | refine blk_alloc ?_ _)); exact BK141.out) hb); have n1_ := Aside0.mk (below_step (by repeat (first | (with_reducible first | exact HB.out | apply below_alloc | apply pw_below_drewN | apply below_drew1 | refine below_set ?_ GE141.out) | exact HB.out)) hb); clear BK141; clear HB; have BK141 := n0_; have HB := n1_; clear n0_ n1_; (try clear hb); (try clear hb2); (try clear hk); (try clear hi); have hcz54_0 : w53.cell? ⟨gb141, 0, none⟩ = some (.bool false) := (blk_cell BK141.out 0).trans rfl; have hcz54_1 : w53.cell? ⟨gb141, 1, none⟩ = some (.bool true) := (blk_cell BK141.out 1).trans rfl; have hfz54_0 := blk_frozen BK141.out 0; have hfz54_1 := blk_frozen BK141.out 1; have hsaz54_ : ∀ u, (w53.setCell ⟨gb141, 0, none⟩ u).cell? ⟨gb141, 1, none⟩ = some (.bool true) := (fun u => Eq.trans (World.cell?_setCell_other _ _ _ _ (by intro he; cases he)) hcz54_1); have hsbz54_ : ∀ u v, ((w53.setCell ⟨gb141, 0, none⟩ u).setCell ⟨gb141, 1, none⟩ v).cell? ⟨gb141, 1, none⟩ = some v := (fun u v => World.cell?_setCell_same _ _ _ (hsaz54_ u))) | (go_at_call 16; (with_reducible refine (filter_Ring.calls false true a2 a3 true _ A49.out).mono ?_); rintro e w55 ⟨rfl, hb⟩; have n0_ := Aside0.mk (blk_below (g := gb141) (o := .cells #[.bool false, .bool true] 22 (0, 0)) (by (with_reducible repeat (first | refine blk_drewN ?_ _ | refine blk_drew ?_ | refine blk_alloc ?_ _)); exact BK141.out) hb); have n1_ := Aside0.mk (below_step (by repeat (first | (with_reducible first | exact HB.out | apply below_alloc | apply pw_below_drewN | apply below_drew1 | refine below_set ?_ GE141.out) | exact HB.out)) hb); clear BK141; clear HB; have BK141 := n0_; have HB := n1_; clear n0_ n1_; (try clear hb); (try clear hb2); (try clear hk); (try clear hi)))
                  go_ret
                  exact ⟨by first | rfl | (simp [errW_none, errW_some] <;> rfl) | (simp [*, errW_none, errW_some] <;> rfl), by repeat (first | (with_reducible first | exact HB.out | apply below_alloc | apply pw_below_drewN | apply below_drew1 | refine below_set ?_ GE141.out) | exact HB.out)⟩
                · replace c50 := Bool.eq_false_iff.mpr c50
                  subst c50
                  have H1 : ((filter_Data.f false true a2 a2).bind fun t151 => (some (!t151))) = some r := by rw [if_neg (show ¬ (false = true) by decide)] at H; exact H
                  clear H
                  have H := H1
                  clear H1
                  replace H := Option.bind_eq_some_iff.mp H
                  obtain ⟨t151, A560, H⟩ := H
                  replace H : (some (!t151)) = some r := H
                  have A56 := Aside0.mk A560
                  clear A560
                  obtain rfl := Option.some.inj H
                  go_wp2_with (first | ((with_reducible refine gate_callee (f := 11) rfl ?_); refine goesL_ (some 33) rfl rfl Try.func11 (by kernel_rfl) rfl #[] rfl (by (try simp only [List.map_toArray, List.map_cons, List.map_nil]); first | done | rfl | (simp only [List.length_drop, List.length_take]; rfl)) ?_; (with_reducible refine (carousellaw18_Awake.calls kj4  true _ A24.out).mono ?_); rintro e w57 ⟨rfl, hb⟩; refine ⟨_, rfl, ?_⟩; have n0_ := Aside0.mk (blk_below (g := gb141) (o := .cells #[.bool false, .bool true] 22 (0, 0)) (by (with_reducible repeat (first | refine blk_drewN ?_ _ | refine blk_drew ?_ | refine blk_alloc ?_ _)); exact BK141.out) hb); have n1_ := Aside0.mk (below_step (by repeat (first | (with_reducible first | exact HB.out | apply below_alloc | apply pw_below_drewN | apply below_drew1 | refine below_set ?_ GE141.out) | exact HB.out)) hb); clear BK141; clear HB; have BK141 := n0_; have HB := n1_; clear n0_ n1_; (try clear hb); (try clear hb2); (try clear hk); (try clear hi); have hcz58_0 : w57.cell? ⟨gb141, 0, none⟩ = some (.bool false) := (blk_cell BK141.out 0).trans rfl; have hcz58_1 : w57.cell? ⟨gb141, 1, none⟩ = some (.bool true) := (blk_cell BK141.out 1).trans rfl; have hfz58_0 := blk_frozen BK141.out 0; have hfz58_1 := blk_frozen BK141.out 1; have hsaz58_ : ∀ u, (w57.setCell ⟨gb141, 0, none⟩ u).cell? ⟨gb141, 1, none⟩ = some (.bool true) := (fun u => Eq.trans (World.cell?_setCell_other _ _ _ _ (by intro he; cases he)) hcz58_1); have hsbz58_ : ∀ u v, ((w57.setCell ⟨gb141, 0, none⟩ u).setCell ⟨gb141, 1, none⟩ v).cell? ⟨gb141, 1, none⟩ = some v := (fun u v => World.cell?_setCell_same _ _ _ (hsaz58_ u))) | (go_at_call 16; (with_reducible refine (filter_Ring.calls false true 0 1 t147 _ A26.out).mono ?_); rintro e w59 ⟨rfl, hb⟩; have n0_ := Aside0.mk (blk_below (g := gb141) (o := .cells #[.bool false, .bool true] 22 (0, 0)) (by (with_reducible repeat (first | refine blk_drewN ?_ _ | refine blk_drew ?_ | refine blk_alloc ?_ _)); exact BK141.out) hb); have n1_ := Aside0.mk (below_step (by repeat (first | (with_reducible first | exact HB.out | apply below_alloc | apply pw_below_drewN | apply below_drew1 | refine below_set ?_ GE141.out) | exact HB.out)) hb); clear BK141; clear HB; have BK141 := n0_; have HB := n1_; clear n0_ n1_; (try clear hb); (try clear hb2); (try clear hk); (try clear hi); have hcz60_0 : w59.cell? ⟨gb141, 0, none⟩ = some (.bool false) := (blk_cell BK141.out 0).trans rfl; have hcz60_1 : w59.cell? ⟨gb141, 1, none⟩ = some (.bool true) := (blk_cell BK141.out 1).trans rfl; have hfz60_0 := blk_frozen BK141.out 0; have hfz60_1 := blk_frozen BK141.out 1; have hsaz60_ : ∀ u, (w59.setCell ⟨gb141, 0, none⟩ u).cell? ⟨gb141, 1, none⟩ = some (.bool true) := (fun u => Eq.trans (World.cell?_setCell_other _ _ _ _ (by intro he; cases he)) hcz60_1); have hsbz60_ : ∀ u v, ((w59.setCell ⟨gb141, 0, none⟩ u).setCell ⟨gb141, 1, none⟩ v).cell? ⟨gb141, 1, none⟩ = some v := (fun u v => World.cell?_setCell_same _ _ _ (hsaz60_ u))) | (go_at_call 16; (with_reducible refine (filter_Ring.calls false true a2 a3 false _ A49.out).mono ?_); rintro e w61 ⟨rfl, hb⟩; have n0_ := Aside0.mk (blk_below (g := gb141) (o := .cells #[.bool false, .bool true] 22 (0, 0)) (by (with_reducible repeat (first | refine blk_drewN ?_ _ | refine blk_drew ?_ | refine blk_alloc ?_ _)); exact BK141.out) hb); have n1_ := Aside0.mk (below_step (by repeat (first | (with_reducible first | exact HB.out | apply below_alloc | apply pw_below_drewN | apply below_drew1 | refine below_set ?_ GE141.out) | exact HB.out)) hb); clear BK141; clear HB; have BK141 := n0_; have HB := n1_; clear n0_ n1_; (try clear hb); (try clear hb2); (try clear hk); (try clear hi); have hcz62_0 : w61.cell? ⟨gb141, 0, none⟩ = some (.bool false) := (blk_cell BK141.out 0).trans rfl; have hcz62_1 : w61.cell? ⟨gb141, 1, none⟩ = some (.bool true) := (blk_cell BK141.out 1).trans rfl; have hfz62_0 := blk_frozen BK141.out 0; have hfz62_1 := blk_frozen BK141.out 1; have hsaz62_ : ∀ u, (w61.setCell ⟨gb141, 0, none⟩ u).cell? ⟨gb141, 1, none⟩ = some (.bool true) := (fun u => Eq.trans (World.cell?_setCell_other _ _ _ _ (by intro he; cases he)) hcz62_1); have hsbz62_ : ∀ u v, ((w61.setCell ⟨gb141, 0, none⟩ u).setCell ⟨gb141, 1, none⟩ v).cell? ⟨gb141, 1, none⟩ = some v := (fun u v => World.cell?_setCell_same _ _ _ (hsaz62_ u))) | (go_at_call 14; (with_reducible refine (filter_Data.calls false true a2 a2 t151 _ A56.out).mono ?_); rintro e w63 ⟨rfl, hb⟩; have n0_ := Aside0.mk (blk_below (g := gb141) (o := .cells #[.bool false, .bool true] 22 (0, 0)) (by (with_reducible repeat (first | refine blk_drewN ?_ _ | refine blk_drew ?_ | refine blk_alloc ?_ _)); exact BK141.out) hb); have n1_ := Aside0.mk (below_step (by repeat (first | (with_reducible first | exact HB.out | apply below_alloc | apply pw_below_drewN | apply below_drew1 | refine below_set ?_ GE141.out) | exact HB.out)) hb); clear BK141; clear HB; have BK141 := n0_; have HB := n1_; clear n0_ n1_; (try clear hb); (try clear hb2); (try clear hk); (try clear hi)))
                  go_ret
                  exact ⟨by first | rfl | (simp [errW_none, errW_some] <;> rfl) | (simp [*, errW_none, errW_some] <;> rfl), by repeat (first | (with_reducible first | exact HB.out | apply below_alloc | apply pw_below_drewN | apply below_drew1 | refine below_set ?_ GE141.out) | exact HB.out)⟩
              · replace c48 := Bool.eq_false_iff.mpr c48
                subst c48
                have ht_ : t147 = true := by simpa using c47b0
                have H1 : ((filter_Data.f false false a2 a2).bind fun t152 => (some (!t152))) = some r := by rw [if_neg (show ¬ (false = true) by decide)] at H; exact H
                clear H
                have H := H1
                clear H1
                replace H := Option.bind_eq_some_iff.mp H
                obtain ⟨t152, A640, H⟩ := H
                replace H : (some (!t152)) = some r := H
                have A64 := Aside0.mk A640
                clear A640
                obtain rfl := Option.some.inj H
                go_wp2_with (first | ((with_reducible refine gate_callee (f := 11) rfl ?_); refine goesL_ (some 33) rfl rfl Try.func11 (by kernel_rfl) rfl #[] rfl (by (try simp only [List.map_toArray, List.map_cons, List.map_nil]); first | done | rfl | (simp only [List.length_drop, List.length_take]; rfl)) ?_; (with_reducible refine (carousellaw18_Awake.calls kj4  true _ A24.out).mono ?_); rintro e w65 ⟨rfl, hb⟩; refine ⟨_, rfl, ?_⟩; have n0_ := Aside0.mk (blk_below (g := gb141) (o := .cells #[.bool false, .bool false] 22 (0, 0)) (by (with_reducible repeat (first | refine blk_drewN ?_ _ | refine blk_drew ?_ | refine blk_alloc ?_ _)); exact BK141.out) hb); have n1_ := Aside0.mk (below_step (by repeat (first | (with_reducible first | exact HB.out | apply below_alloc | apply pw_below_drewN | apply below_drew1 | refine below_set ?_ GE141.out) | exact HB.out)) hb); clear BK141; clear HB; have BK141 := n0_; have HB := n1_; clear n0_ n1_; (try clear hb); (try clear hb2); (try clear hk); (try clear hi); have hcz66_0 : w65.cell? ⟨gb141, 0, none⟩ = some (.bool false) := (blk_cell BK141.out 0).trans rfl; have hcz66_1 : w65.cell? ⟨gb141, 1, none⟩ = some (.bool false) := (blk_cell BK141.out 1).trans rfl; have hfz66_0 := blk_frozen BK141.out 0; have hfz66_1 := blk_frozen BK141.out 1; have hsaz66_ : ∀ u, (w65.setCell ⟨gb141, 0, none⟩ u).cell? ⟨gb141, 1, none⟩ = some (.bool false) := (fun u => Eq.trans (World.cell?_setCell_other _ _ _ _ (by intro he; cases he)) hcz66_1); have hsbz66_ : ∀ u v, ((w65.setCell ⟨gb141, 0, none⟩ u).setCell ⟨gb141, 1, none⟩ v).cell? ⟨gb141, 1, none⟩ = some v := (fun u v => World.cell?_setCell_same _ _ _ (hsaz66_ u))) | (go_at_call 16; (with_reducible refine (filter_Ring.calls false false 0 1 t147 _ A26.out).mono ?_); rintro e w67 ⟨rfl, hb⟩; have n0_ := Aside0.mk (blk_below (g := gb141) (o := .cells #[.bool false, .bool false] 22 (0, 0)) (by (with_reducible repeat (first | refine blk_drewN ?_ _ | refine blk_drew ?_ | refine blk_alloc ?_ _)); exact BK141.out) hb); have n1_ := Aside0.mk (below_step (by repeat (first | (with_reducible first | exact HB.out | apply below_alloc | apply pw_below_drewN | apply below_drew1 | refine below_set ?_ GE141.out) | exact HB.out)) hb); clear BK141; clear HB; have BK141 := n0_; have HB := n1_; clear n0_ n1_; (try clear hb); (try clear hb2); (try clear hk); (try clear hi); have hcz68_0 : w67.cell? ⟨gb141, 0, none⟩ = some (.bool false) := (blk_cell BK141.out 0).trans rfl; have hcz68_1 : w67.cell? ⟨gb141, 1, none⟩ = some (.bool false) := (blk_cell BK141.out 1).trans rfl; have hfz68_0 := blk_frozen BK141.out 0; have hfz68_1 := blk_frozen BK141.out 1; have hsaz68_ : ∀ u, (w67.setCell ⟨gb141, 0, none⟩ u).cell? ⟨gb141, 1, none⟩ = some (.bool false) := (fun u => Eq.trans (World.cell?_setCell_other _ _ _ _ (by intro he; cases he)) hcz68_1); have hsbz68_ : ∀ u v, ((w67.setCell ⟨gb141, 0, none⟩ u).setCell ⟨gb141, 1, none⟩ v).cell? ⟨gb141, 1, none⟩ = some v := (fun u v => World.cell?_setCell_same _ _ _ (hsaz68_ u))) | (go_at_call 14; (with_reducible refine (filter_Data.calls false false a2 a2 t152 _ A64.out).mono ?_); rintro e w69 ⟨rfl, hb⟩; have n0_ := Aside0.mk (blk_below (g := gb141) (o := .cells #[.bool false, .bool false] 22 (0, 0)) (by (with_reducible repeat (first | refine blk_drewN ?_ _ | refine blk_drew ?_ | refine blk_alloc ?_ _)); exact BK141.out) hb); have n1_ := Aside0.mk (below_step (by repeat (first | (with_reducible first | exact HB.out | apply below_alloc | apply pw_below_drewN | apply below_drew1 | refine below_set ?_ GE141.out) | exact HB.out)) hb); clear BK141; clear HB; have BK141 := n0_; have HB := n1_; clear n0_ n1_; (try clear hb); (try clear hb2); (try clear hk); (try clear hi)))
                go_ret
                exact ⟨by first | rfl | (simp [errW_none, errW_some] <;> rfl) | (simp [*, errW_none, errW_some] <;> rfl), by repeat (first | (with_reducible first | exact HB.out | apply below_alloc | apply pw_below_drewN | apply below_drew1 | refine below_set ?_ GE141.out) | exact HB.out)⟩
            · rw [if_neg c47] at H
              have c47b0 : (t147 == (!a1)) = false := by simpa using c47
              (try (have c47b1 : decide (t147 = (!a1)) = false := by simpa using c47))
              (try (have c47b2 : (t147 == (!a1)) = false := by simpa using c47))
              (try (have c47b3 : ¬ (t147 = (!a1)) := by simpa using c47))
              clear c47
              obtain rfl := Option.some.inj H
              go_wp2_with (first | ((with_reducible refine gate_callee (f := 11) rfl ?_); refine goesL_ (some 33) rfl rfl Try.func11 (by kernel_rfl) rfl #[] rfl (by (try simp only [List.map_toArray, List.map_cons, List.map_nil]); first | done | rfl | (simp only [List.length_drop, List.length_take]; rfl)) ?_; (with_reducible refine (carousellaw18_Awake.calls kj4  true _ A24.out).mono ?_); rintro e w70 ⟨rfl, hb⟩; refine ⟨_, rfl, ?_⟩; have n0_ := Aside0.mk (blk_below (g := gb141) (o := .cells #[.bool false, .bool a1] 22 (0, 0)) (by (with_reducible repeat (first | refine blk_drewN ?_ _ | refine blk_drew ?_ | refine blk_alloc ?_ _)); exact BK141.out) hb); have n1_ := Aside0.mk (below_step (by repeat (first | (with_reducible first | exact HB.out | apply below_alloc | apply pw_below_drewN | apply below_drew1 | refine below_set ?_ GE141.out) | exact HB.out)) hb); clear BK141; clear HB; have BK141 := n0_; have HB := n1_; clear n0_ n1_; (try clear hb); (try clear hb2); (try clear hk); (try clear hi); have hcz71_0 : w70.cell? ⟨gb141, 0, none⟩ = some (.bool false) := (blk_cell BK141.out 0).trans rfl; have hcz71_1 : w70.cell? ⟨gb141, 1, none⟩ = some (.bool a1) := (blk_cell BK141.out 1).trans rfl; have hfz71_0 := blk_frozen BK141.out 0; have hfz71_1 := blk_frozen BK141.out 1; have hsaz71_ : ∀ u, (w70.setCell ⟨gb141, 0, none⟩ u).cell? ⟨gb141, 1, none⟩ = some (.bool a1) := (fun u => Eq.trans (World.cell?_setCell_other _ _ _ _ (by intro he; cases he)) hcz71_1); have hsbz71_ : ∀ u v, ((w70.setCell ⟨gb141, 0, none⟩ u).setCell ⟨gb141, 1, none⟩ v).cell? ⟨gb141, 1, none⟩ = some v := (fun u v => World.cell?_setCell_same _ _ _ (hsaz71_ u))) | (go_at_call 16; (with_reducible refine (filter_Ring.calls false a1 0 1 t147 _ A26.out).mono ?_); rintro e w72 ⟨rfl, hb⟩; have n0_ := Aside0.mk (blk_below (g := gb141) (o := .cells #[.bool false, .bool a1] 22 (0, 0)) (by (with_reducible repeat (first | refine blk_drewN ?_ _ | refine blk_drew ?_ | refine blk_alloc ?_ _)); exact BK141.out) hb); have n1_ := Aside0.mk (below_step (by repeat (first | (with_reducible first | exact HB.out | apply below_alloc | apply pw_below_drewN | apply below_drew1 | refine below_set ?_ GE141.out) | exact HB.out)) hb); clear BK141; clear HB; have BK141 := n0_; have HB := n1_; clear n0_ n1_; (try clear hb); (try clear hb2); (try clear hk); (try clear hi)))
              go_ret
              exact ⟨by first | rfl | (simp [errW_none, errW_some] <;> rfl) | (simp [*, errW_none, errW_some] <;> rfl), by repeat (first | (with_reducible first | exact HB.out | apply below_alloc | apply pw_below_drewN | apply below_drew1 | refine below_set ?_ GE141.out) | exact HB.out)⟩
        · replace c25 := Bool.eq_false_iff.mpr c25
          subst c25
          have H1 : (some false) = some r := by rw [if_neg (show ¬ (false = true) by decide)] at H; exact H
          clear H
          have H := H1
          clear H1
          obtain rfl := Option.some.inj H
          go_wp2_with (first | ((with_reducible refine gate_callee (f := 11) rfl ?_); refine goesL_ (some 33) rfl rfl Try.func11 (by kernel_rfl) rfl #[] rfl (by (try simp only [List.map_toArray, List.map_cons, List.map_nil]); first | done | rfl | (simp only [List.length_drop, List.length_take]; rfl)) ?_; (with_reducible refine (carousellaw18_Awake.calls kj4  false _ A24.out).mono ?_); rintro e w73 ⟨rfl, hb⟩; refine ⟨_, rfl, ?_⟩; have n0_ := Aside0.mk (blk_below (g := gb141) (o := .cells #[.bool a0, .bool a1] 22 (0, 0)) (by (with_reducible repeat (first | refine blk_drewN ?_ _ | refine blk_drew ?_ | refine blk_alloc ?_ _)); exact BK141.out) hb); have n1_ := Aside0.mk (below_step (by repeat (first | (with_reducible first | exact HB.out | apply below_alloc | apply pw_below_drewN | apply below_drew1 | refine below_set ?_ GE141.out) | exact HB.out)) hb); clear BK141; clear HB; have BK141 := n0_; have HB := n1_; clear n0_ n1_; (try clear hb); (try clear hb2); (try clear hk); (try clear hi)))
          go_ret
          exact ⟨by first | rfl | (simp [errW_none, errW_some] <;> rfl) | (simp [*, errW_none, errW_some] <;> rfl), by repeat (first | (with_reducible first | exact HB.out | apply below_alloc | apply pw_below_drewN | apply below_drew1 | refine below_set ?_ GE141.out) | exact HB.out)⟩

/-- THE ONE PURE STATEMENT of carousellaw18_FilterBoth: yours. -/
def carousellaw18_FilterBoth.Pure : Prop := ∀ (a0 : Bool) (a1 : Bool) (a2 : Int) (a3 : Int), (Lit.int .i64 a2).wf = true → (Lit.int .i64 a3).wf = true → ∃ k, carousellaw18_FilterBoth.f k a0 a1 a2 a3 = some true
theorem carousellaw18_FilterBoth.walk (P : carousellaw18_FilterBoth.Pure) (a0 : Bool) (a1 : Bool) (a2 : Int) (a3 : Int) (w : World) (w2_0 : (Lit.int .i64 a2).wf = true) (w3_0 : (Lit.int .i64 a3).wf = true) :
    Calls Try.prog 4 #[.bool a0, .bool a1, .int .i64 a2, .int .i64 a3] w fun e w' => e = .returned (.bool true) ∧ Below w.heap.size w w' := by
  obtain ⟨k, h⟩ := P a0 a1 a2 a3 w2_0 w3_0
  refine (carousellaw18_FilterBoth.calls k a0 a1 a2 a3 true w h).mono ?_
  rintro e w' ⟨rfl, hd⟩
  exact ⟨rfl, hd⟩

end Go.Proofs.Ytmdaaphjndjakaa.PAll
