-- Written by a program of this work, after the translation.
import Derived.Test.YtmdaaphjndjakaaPBurstPlaysx0
import Derived.Test.YtmdaaphjndjakaaPBurstPlaysx1
import Derived.Test.YtmdaaphjndjakaaPBurstPlaysx2
import Derived.Test.YtmdaaphjndjakaaPBurstPlaysx3
import Derived.Test.YtmdaaphjndjakaaPBurstPlaysx4
namespace Go.Proofs.Ytmdaaphjndjakaa.PBurstPlays
open Go.RowKit Go.Proofs.YtmdaaphjndjakaaW.PrintWords Go.Proofs.YtmdaaphjndjakaaW.PrintLast Go.Proofs.YtmdaaphjndjakaaW.PrintMore
attribute [local go_sem] max2_int min2_int max_two min_two max_three min_three max_four min_four   -- for this text's walks alone
set_option linter.unusedVariables false
set_option linter.unusedSimpArgs false

attribute [local go_sem high] eqA55 eqA58
/-! ### carousellaw15_BurstPlays: function 7 -/
mutual
def carousellaw15_BurstPlays.j0 : Nat → Int → Int → List (S61) → Int → Bool → Int → Int → Int → Bool → Int → Option (Bool)
  | 0, _, _, _, _, _, _, _, _, _, _ => none
  | k + 1, x0, x1, x2, x8, x38, x155000, x155001, x155002, x155003, x155004 => if x38 = true then ((carousellaw15_Awake.f k).bind fun t155 => (if t155 = true then (if x8 = 4 then (some (x155000 == 0 && (x155001 == 0 && (x155002 == 0 && (!x155003 && (x155004 == 0)))))) else (some false)) else (some false))) else (carousellaw15_BurstPlays.l0 k x8 0 x2 (x2.length : Int) 0 x155000 x155001 x155002 x155003 x155004 x0 x1 0 false 0)
def carousellaw15_BurstPlays.l0 : Nat → Int → Int → List (S61) → Int → Int → Int → Int → Int → Bool → Int → Int → Int → Int → Bool → Int → Option (Bool)
  | 0, _, _, _, _, _, _, _, _, _, _, _, _, _, _, _ => none
  | k + 1, x8, x10, x52, x53, x54, x155000, x155001, x155002, x155003, x155004, x157000, x157001, x157002, x157003, x157004 => if x54 < x53 then (if 0 ≤ x54 then (if x54 < (x52.length : Int) then (if ((rd_T61 x52 x54).f0) = 0 then ((burst_Burst_Tick.f k x155000 x155001 x155002 x155003 x155004 (wrap64 (x10 + (wrap64 ((rd_T61 x52 x54).f1))))).bind fun bt160 => ((carouselref15_Tick.f k x157000 x157001 x157002 x157003 x157004 (wrap64 (x10 + (wrap64 ((rd_T61 x52 x54).f1))))).bind fun bt166 => (carousellaw15_BurstPlays.j2 k x8 (wrap64 (x10 + (wrap64 ((rd_T61 x52 x54).f1)))) bt160.2.2.2.2.2 bt166.2.2.2.2.2 x52 x53 x54 bt160.1 bt160.2.1 bt160.2.2.1 bt160.2.2.2.1 bt160.2.2.2.2.1 bt166.1 bt166.2.1 bt166.2.2.1 bt166.2.2.2.1 bt166.2.2.2.2.1))) else (if ((rd_T61 x52 x54).f0) = 1 then ((burst_Burst_Begin.f x155000 x155001 x155002 x155003 x155004 (wrap64 (x10 + (wrap64 ((rd_T61 x52 x54).f1))))).bind fun bt172 => ((carouselref15_Begin.f x157000 x157001 x157002 x157003 x157004 (wrap64 (x10 + (wrap64 ((rd_T61 x52 x54).f1))))).bind fun bt177 => (carousellaw15_BurstPlays.j2 k x8 (wrap64 (x10 + (wrap64 ((rd_T61 x52 x54).f1)))) false false x52 x53 x54 bt172.1 bt172.2.1 bt172.2.2.1 bt172.2.2.2.1 bt172.2.2.2.2 bt177.1 bt177.2.1 bt177.2.2.1 bt177.2.2.2.1 bt177.2.2.2.2))) else (if ((rd_T61 x52 x54).f0) = 2 then ((burst_Burst_End.f x155000 x155001 x155002 x155003 x155004).bind fun bt182 => ((carouselref15_End.f x157000 x157001 x157002 x157003 x157004).bind fun bt187 => (carousellaw15_BurstPlays.j2 k x8 (wrap64 (x10 + (wrap64 ((rd_T61 x52 x54).f1)))) false false x52 x53 x54 bt182.1 bt182.2.1 bt182.2.2.1 bt182.2.2.2.1 bt182.2.2.2.2 bt187.1 bt187.2.1 bt187.2.2.1 bt187.2.2.2.1 bt187.2.2.2.2))) else (carousellaw15_BurstPlays.j2 k x8 (wrap64 (x10 + (wrap64 ((rd_T61 x52 x54).f1)))) false false x52 x53 x54 x155000 x155001 x155002 x155003 x155004 x157000 x157001 x157002 x157003 x157004)))) else (none)) else (none)) else ((carousellaw15_Awake.f k).bind fun t157 => (if t157 = true then (some (x8 == 0)) else (some false)))
def carousellaw15_BurstPlays.j2 : Nat → Int → Int → Bool → Bool → List (S61) → Int → Int → Int → Int → Int → Bool → Int → Int → Int → Int → Bool → Int → Option (Bool)
  | 0, _, _, _, _, _, _, _, _, _, _, _, _, _, _, _, _, _ => none
  | k + 1, x8, x10, x13, x14, x52, x53, x54, x155000, x155001, x155002, x155003, x155004, x157000, x157001, x157002, x157003, x157004 => if (x13 != x14) = true then (some false) else (if (!(x155000 == x157000) || (!(x155001 == x157001) || (!(x155002 == x157002) || (!(x155003 == x157003) || (!(x155004 == x157004)))))) = true then (some false) else (carousellaw15_BurstPlays.l0 k x8 x10 x52 x53 (wrap64 (x54 + 1)) x155000 x155001 x155002 x155003 x155004 x157000 x157001 x157002 x157003 x157004))
end
def carousellaw15_BurstPlays.f (k : Nat) (a0 : Int) (a1 : Int) (l2 : List (S61)) : Option (Bool) := if (l2.length : Int) > 100 then ((carousellaw15_Awake.f k).bind fun t147 => (some t147)) else ((burst_New.f a0 a1).bind fun bt148 => (if a0 < 1 then (carousellaw15_BurstPlays.j0 k a0 a1 l2 bt148.2.2.2.2.2 true bt148.1 bt148.2.1 bt148.2.2.1 bt148.2.2.2.1 bt148.2.2.2.2.1) else (if a0 > 1048576 then (carousellaw15_BurstPlays.j0 k a0 a1 l2 bt148.2.2.2.2.2 true bt148.1 bt148.2.1 bt148.2.2.1 bt148.2.2.2.1 bt148.2.2.2.2.1) else (if a1 < 1 then (carousellaw15_BurstPlays.j0 k a0 a1 l2 bt148.2.2.2.2.2 true bt148.1 bt148.2.1 bt148.2.2.1 bt148.2.2.2.1 bt148.2.2.2.2.1) else (carousellaw15_BurstPlays.j0 k a0 a1 l2 bt148.2.2.2.2.2 (decide (a1 > 1048576)) bt148.1 bt148.2.1 bt148.2.2.1 bt148.2.2.2.1 bt148.2.2.2.2.1)))))
theorem carousellaw15_BurstPlays.mono_l : ∀ k, (∀ y0 y1 y2 y3 y4 y5 y6 y7 y8 y9, LeO (carousellaw15_BurstPlays.j0 k y0 y1 y2 y3 y4 y5 y6 y7 y8 y9) (carousellaw15_BurstPlays.j0 (k + 1) y0 y1 y2 y3 y4 y5 y6 y7 y8 y9)) ∧ (∀ y0 y1 y2 y3 y4 y5 y6 y7 y8 y9 y10 y11 y12 y13 y14, LeO (carousellaw15_BurstPlays.l0 k y0 y1 y2 y3 y4 y5 y6 y7 y8 y9 y10 y11 y12 y13 y14) (carousellaw15_BurstPlays.l0 (k + 1) y0 y1 y2 y3 y4 y5 y6 y7 y8 y9 y10 y11 y12 y13 y14)) ∧ (∀ y0 y1 y2 y3 y4 y5 y6 y7 y8 y9 y10 y11 y12 y13 y14 y15 y16, LeO (carousellaw15_BurstPlays.j2 k y0 y1 y2 y3 y4 y5 y6 y7 y8 y9 y10 y11 y12 y13 y14 y15 y16) (carousellaw15_BurstPlays.j2 (k + 1) y0 y1 y2 y3 y4 y5 y6 y7 y8 y9 y10 y11 y12 y13 y14 y15 y16))
  | 0 => ⟨fun _ _ _ _ _ _ _ _ _ _ r h => by simp [carousellaw15_BurstPlays.j0] at h, fun _ _ _ _ _ _ _ _ _ _ _ _ _ _ _ r h => by simp [carousellaw15_BurstPlays.l0] at h, fun _ _ _ _ _ _ _ _ _ _ _ _ _ _ _ _ _ r h => by simp [carousellaw15_BurstPlays.j2] at h⟩
  | k + 1 => by
    obtain ⟨ih0, ih1, ih2⟩ := carousellaw15_BurstPlays.mono_l k
    refine ⟨?_, ?_, ?_⟩
    · intro y0 y1 y2 y3 y4 y5 y6 y7 y8 y9
      unfold carousellaw15_BurstPlays.j0
      repeat' first
      | (with_reducible exact ih0 _ _ _ _ _ _ _ _ _ _)
      | (with_reducible exact ih1 _ _ _ _ _ _ _ _ _ _ _ _ _ _ _)
      | (with_reducible exact ih2 _ _ _ _ _ _ _ _ _ _ _ _ _ _ _ _ _)
      | (with_reducible exact burst_Burst_Tick.mono _ _ _ _ _ _ _)
      | (with_reducible exact carousellaw15_Awake.mono _)
      | (with_reducible exact carouselref15_Tick.mono _ _ _ _ _ _ _)
      | (with_reducible exact LeO.refl _)
      | (with_reducible exact LeO.none _)
      | (with_reducible refine LeO.ite ?_ ?_)
      | (with_reducible refine LeO.bind ?_ (fun _ => ?_))
      | exact ih0 _ _ _ _ _ _ _ _ _ _
      | exact ih1 _ _ _ _ _ _ _ _ _ _ _ _ _ _ _
      | exact ih2 _ _ _ _ _ _ _ _ _ _ _ _ _ _ _ _ _
      | exact burst_Burst_Tick.mono _ _ _ _ _ _ _
      | exact carousellaw15_Awake.mono _
      | exact carouselref15_Tick.mono _ _ _ _ _ _ _
      | exact LeO.none _
      | refine LeO.ite ?_ ?_
      | refine LeO.bind ?_ (fun _ => ?_)
    · intro y0 y1 y2 y3 y4 y5 y6 y7 y8 y9 y10 y11 y12 y13 y14
      unfold carousellaw15_BurstPlays.l0
      repeat' first
      | (with_reducible exact ih0 _ _ _ _ _ _ _ _ _ _)
      | (with_reducible exact ih1 _ _ _ _ _ _ _ _ _ _ _ _ _ _ _)
      | (with_reducible exact ih2 _ _ _ _ _ _ _ _ _ _ _ _ _ _ _ _ _)
      | (with_reducible exact burst_Burst_Tick.mono _ _ _ _ _ _ _)
      | (with_reducible exact carousellaw15_Awake.mono _)
      | (with_reducible exact carouselref15_Tick.mono _ _ _ _ _ _ _)
      | (with_reducible exact LeO.refl _)
      | (with_reducible exact LeO.none _)
      | (with_reducible refine LeO.ite ?_ ?_)
      | (with_reducible refine LeO.bind ?_ (fun _ => ?_))
      | exact ih0 _ _ _ _ _ _ _ _ _ _
      | exact ih1 _ _ _ _ _ _ _ _ _ _ _ _ _ _ _
      | exact ih2 _ _ _ _ _ _ _ _ _ _ _ _ _ _ _ _ _
      | exact burst_Burst_Tick.mono _ _ _ _ _ _ _
      | exact carousellaw15_Awake.mono _
      | exact carouselref15_Tick.mono _ _ _ _ _ _ _
      | exact LeO.none _
      | refine LeO.ite ?_ ?_
      | refine LeO.bind ?_ (fun _ => ?_)
    · intro y0 y1 y2 y3 y4 y5 y6 y7 y8 y9 y10 y11 y12 y13 y14 y15 y16
      unfold carousellaw15_BurstPlays.j2
      repeat' first
      | (with_reducible exact ih0 _ _ _ _ _ _ _ _ _ _)
      | (with_reducible exact ih1 _ _ _ _ _ _ _ _ _ _ _ _ _ _ _)
      | (with_reducible exact ih2 _ _ _ _ _ _ _ _ _ _ _ _ _ _ _ _ _)
      | (with_reducible exact burst_Burst_Tick.mono _ _ _ _ _ _ _)
      | (with_reducible exact carousellaw15_Awake.mono _)
      | (with_reducible exact carouselref15_Tick.mono _ _ _ _ _ _ _)
      | (with_reducible exact LeO.refl _)
      | (with_reducible exact LeO.none _)
      | (with_reducible refine LeO.ite ?_ ?_)
      | (with_reducible refine LeO.bind ?_ (fun _ => ?_))
      | exact ih0 _ _ _ _ _ _ _ _ _ _
      | exact ih1 _ _ _ _ _ _ _ _ _ _ _ _ _ _ _
      | exact ih2 _ _ _ _ _ _ _ _ _ _ _ _ _ _ _ _ _
      | exact burst_Burst_Tick.mono _ _ _ _ _ _ _
      | exact carousellaw15_Awake.mono _
      | exact carouselref15_Tick.mono _ _ _ _ _ _ _
      | exact LeO.none _
      | refine LeO.ite ?_ ?_
      | refine LeO.bind ?_ (fun _ => ?_)
theorem carousellaw15_BurstPlays.mono : ∀ a0 a1 a2 k, LeO (carousellaw15_BurstPlays.f k a0 a1 a2) (carousellaw15_BurstPlays.f (k + 1) a0 a1 a2) := by
  intro a0 a1 a2 k
  obtain ⟨ih0, ih1, ih2⟩ := carousellaw15_BurstPlays.mono_l k
  unfold carousellaw15_BurstPlays.f
  repeat' first
      | (with_reducible exact ih0 _ _ _ _ _ _ _ _ _ _)
      | (with_reducible exact ih1 _ _ _ _ _ _ _ _ _ _ _ _ _ _ _)
      | (with_reducible exact ih2 _ _ _ _ _ _ _ _ _ _ _ _ _ _ _ _ _)
      | (with_reducible exact burst_Burst_Tick.mono _ _ _ _ _ _ _)
      | (with_reducible exact carousellaw15_Awake.mono _)
      | (with_reducible exact carouselref15_Tick.mono _ _ _ _ _ _ _)
      | (with_reducible exact LeO.refl _)
      | (with_reducible exact LeO.none _)
      | (with_reducible refine LeO.ite ?_ ?_)
      | (with_reducible refine LeO.bind ?_ (fun _ => ?_))
      | exact ih0 _ _ _ _ _ _ _ _ _ _
      | exact ih1 _ _ _ _ _ _ _ _ _ _ _ _ _ _ _
      | exact ih2 _ _ _ _ _ _ _ _ _ _ _ _ _ _ _ _ _
      | exact burst_Burst_Tick.mono _ _ _ _ _ _ _
      | exact carousellaw15_Awake.mono _
      | exact carouselref15_Tick.mono _ _ _ _ _ _ _
      | exact LeO.none _
      | refine LeO.ite ?_ ?_
      | refine LeO.bind ?_ (fun _ => ?_)
def carousellaw15_BurstPlays.T18 : Bool × List (List Nat × List Nat) := (true, [([], []), ([], []), ([0, 1], [0, 1]), ([], []), ([], []), ([3, 4, 2], [3, 4]), ([2, 5, 0, 1, 2], [2]), ([5, 6, 0, 1, 2, 3, 4, 5, 6], [5])])
def carousellaw15_BurstPlays.B18 : List Nat := [0, 0, 3, 0, 0, 31, 63, 127]
theorem carousellaw15_BurstPlays.tab18 : rtab .any (opsOf Try.f7 18) = carousellaw15_BurstPlays.T18 := by kernel_rfl
theorem carousellaw15_BurstPlays.bits18 : waitsOk carousellaw15_BurstPlays.T18.2 carousellaw15_BurstPlays.B18 = true := by kernel_rfl
set_option maxHeartbeats 8000000 in
set_option maxRecDepth 100000 in
theorem carousellaw15_BurstPlays.calls (k : Nat) (a0 : Int) (a1 : Int) (A2 : Option Addr) (c2 : Nat) (l2 : List (S61)) (r : Bool) (w : World) (hr2 : Kd.C k61 w A2 l2.length l2) (hc2 : l2.length ≤ c2) (h : carousellaw15_BurstPlays.f k a0 a1 l2 = some r) (hT : r = true) :
    Calls Try.prog 7 #[.int .i64 a0, .int .i64 a1, .slice A2 l2.length c2] w fun e w' => e = .returned (.bool r) ∧ Below w.heap.size w w' := by
  have hu55 := Try.underlying55
  have hu58 := Try.underlying58
  have hu61 := Try.underlying61
  have HR2 := Aside0.mk hr2
  have HC2 := Aside0.mk hc2
  clear hr2 hc2
  have HB := Aside0.mk (Below.refl w.heap.size w)
  have H : (if (l2.length : Int) > 100 then ((carousellaw15_Awake.f k).bind fun t147 => (some t147)) else ((burst_New.f a0 a1).bind fun bt148 => (if a0 < 1 then (carousellaw15_BurstPlays.j0 k a0 a1 l2 bt148.2.2.2.2.2 true bt148.1 bt148.2.1 bt148.2.2.1 bt148.2.2.2.1 bt148.2.2.2.2.1) else (if a0 > 1048576 then (carousellaw15_BurstPlays.j0 k a0 a1 l2 bt148.2.2.2.2.2 true bt148.1 bt148.2.1 bt148.2.2.1 bt148.2.2.2.1 bt148.2.2.2.2.1) else (if a1 < 1 then (carousellaw15_BurstPlays.j0 k a0 a1 l2 bt148.2.2.2.2.2 true bt148.1 bt148.2.1 bt148.2.2.1 bt148.2.2.2.1 bt148.2.2.2.2.1) else (carousellaw15_BurstPlays.j0 k a0 a1 l2 bt148.2.2.2.2.2 (decide (a1 > 1048576)) bt148.1 bt148.2.1 bt148.2.2.1 bt148.2.2.2.1 bt148.2.2.2.2.1)))))) = some r := h
  clear h
  by_cases c4 : (l2.length : Int) > 100
  · rw [if_pos c4] at H
    have c4b0 : decide (100 < (l2.length : Int)) = true := decide_eq_true c4
    have c4b1 : decide (100 < l2.length) = true := decide_eq_true (by omega)
    clear c4
    replace H := Option.bind_eq_some_iff.mp H
    obtain ⟨t147, A50, H⟩ := H
    replace H : (some t147) = some r := H
    have A5 := Aside0.mk A50
    clear A50
    obtain rfl := Option.some.inj H
    go_enter Try.func7, Try.ntmps7
    go_wp2_with (first | ((with_reducible refine gate_callee (f := 25) rfl ?_); refine goesL_ (some 18) rfl rfl Try.func25 (by kernel_rfl) rfl #[] rfl (by (try simp only [List.map_toArray, List.map_cons, List.map_nil]); first | done | rfl | (simp only [List.length_drop, List.length_take]; rfl)) ?_; (with_reducible refine (carousellaw15_Awake.calls k  t147 _ A5.out).mono ?_); rintro e w6 ⟨rfl, hb⟩; refine ⟨_, rfl, ?_⟩; have n0_ := Aside0.mk (below_step (by repeat (first | (with_reducible first | exact HB.out | apply below_alloc | apply pw_below_drewN | apply below_drew1) | exact HB.out)) hb); clear HB; have HB := n0_; clear n0_; (try clear hb); (try clear hb2); (try clear hk); (try clear hi)))
    go_ret
    exact ⟨by first | rfl | (simp [errW_none, errW_some] <;> rfl) | (simp [*, errW_none, errW_some] <;> rfl), by repeat (first | (with_reducible first | exact HB.out | apply below_alloc | apply pw_below_drewN | apply below_drew1) | exact HB.out)⟩
  · rw [if_neg c4] at H
    have c4b0 : decide (100 < (l2.length : Int)) = false := decide_eq_false c4
    have c4b1 : decide (100 < l2.length) = false := decide_eq_false (by omega)
    clear c4
    replace H := Option.bind_eq_some_iff.mp H
    obtain ⟨⟨t148, t149, t150, t151, t152, t153⟩, A70, H⟩ := H
    replace H : (if a0 < 1 then (carousellaw15_BurstPlays.j0 k a0 a1 l2 t153 true t148 t149 t150 t151 t152) else (if a0 > 1048576 then (carousellaw15_BurstPlays.j0 k a0 a1 l2 t153 true t148 t149 t150 t151 t152) else (if a1 < 1 then (carousellaw15_BurstPlays.j0 k a0 a1 l2 t153 true t148 t149 t150 t151 t152) else (carousellaw15_BurstPlays.j0 k a0 a1 l2 t153 (decide (a1 > 1048576)) t148 t149 t150 t151 t152)))) = some r := H
    have A7 := Aside0.mk A70
    clear A70
    have HC8 := Aside0.mk H
    clear H
    go_enter Try.func7, Try.ntmps7
    go_upto_region 4 with (first | ((with_reducible refine gate_callee (f := 26) rfl ?_); refine goesL_ (some 22) rfl rfl Try.func26 (by kernel_rfl) rfl #[.int .i64 a0, .int .i64 a1] rfl (by (try simp only [List.map_toArray, List.map_cons, List.map_nil]); first | done | rfl | (simp only [List.length_drop, List.length_take]; rfl)) ?_; (with_reducible refine (burst_New.calls a0 a1 t148 t149 t150 t151 t152 t153 _ A7.out).mono ?_); rintro e w9 ⟨rfl, hb⟩; refine ⟨_, rfl, ?_⟩; have n0_ := Aside0.mk (below_step (by repeat (first | (with_reducible first | exact HB.out | apply below_alloc | apply pw_below_drewN | apply below_drew1) | exact HB.out)) hb); clear HB; have HB := n0_; clear n0_; (try clear hb); (try clear hb2); (try clear hk); (try clear hi)) | ((with_reducible refine gate_dst (N := 7) rfl ?_); refine box_event ?hg (N := 7) ?hd (cs := #[.int .i64 0, .int .i64 0, .int .i64 0, .bool false, .int .i64 0]) (t := 55) ?hr ?_; (case hd => rfl); (case hg => rfl); (case hr => first | (go_simp; done) | (go_simp; rfl)); intro gb154 hg w10 hbox hb; have n0_ := Aside0.mk (below_step (by repeat (first | (with_reducible first | exact HB.out | apply below_alloc | apply pw_below_drewN | apply below_drew1) | exact HB.out)) hb); have n1_ := Aside0.mk (hbox); have n2_ := Aside0.mk ((by rw [hg]; exact (below_size (by repeat (first | (with_reducible first | exact HB.out | apply below_alloc | apply pw_below_drewN | apply below_drew1) | exact HB.out))) : w.heap.size ≤ gb154)); have n3_ := Aside0.mk ((by rw [hg]; exact (below_size (by repeat (first | (with_reducible first | exact HB.out | apply below_alloc | apply pw_below_drewN | apply below_drew1) | exact HB.out))) : w.heap.size ≤ gb154)); clear HB; have HB := n0_; have BK154 := n1_; have GW154 := n2_; have GE154 := n3_; clear n0_ n1_ n2_ n3_; clear hb hbox hg; have hcz11_0 : w10.cell? ⟨gb154, 0, none⟩ = some (.int .i64 0) := (blk_cell BK154.out 0).trans rfl; have hcz11_1 : w10.cell? ⟨gb154, 1, none⟩ = some (.int .i64 0) := (blk_cell BK154.out 1).trans rfl; have hcz11_2 : w10.cell? ⟨gb154, 2, none⟩ = some (.int .i64 0) := (blk_cell BK154.out 2).trans rfl; have hcz11_3 : w10.cell? ⟨gb154, 3, none⟩ = some (.bool false) := (blk_cell BK154.out 3).trans rfl; have hcz11_4 : w10.cell? ⟨gb154, 4, none⟩ = some (.int .i64 0) := (blk_cell BK154.out 4).trans rfl; have hfz11_0 := blk_frozen BK154.out 0; have hfz11_1 := blk_frozen BK154.out 1; have hfz11_2 := blk_frozen BK154.out 2; have hfz11_3 := blk_frozen BK154.out 3; have hfz11_4 := blk_frozen BK154.out 4))
    (try simp only [Act.put, List.setIfInBounds_toArray, List.set_cons_zero, List.set_cons_succ])
    go_cut [38] (fun v38 wc => ∃ (kq : Nat) (x38_7 : Bool), v38 = .bool x38_7 ∧ Aside0 (carousellaw15_BurstPlays.j0 kq a0 a1 l2 t153 x38_7 t148 t149 t150 t151 t152 = some r) ∧ Aside0 (kq ≤ k) ∧ Aside0 (wc.heap[gb154]? = some (.cells #[.int .i64 t148, .int .i64 t149, .int .i64 t150, .bool t151, .int .i64 t152] 55 (0, 0))) ∧ Aside0 (Below w.heap.size w wc))
    case first =>
      have H := HC8.out
      clear HC8
      by_cases c12 : a0 < 1
      · rw [if_pos c12] at H
        have c12b0 : decide (a0 < 1) = true := decide_eq_true c12
        clear c12
        (first | rw [c12b0] | (simp only [i64_w, i32_w]; rw [c12b0]) | skip)
        have H' := Aside0.mk H
        clear H
        go_wp2
        go_meet
        case rel => exact ⟨_, (true), (by first | rfl | (simp; done) | (simp [*]; done)), H', ⟨by first | omega | exact Nat.le_refl _⟩, ⟨by (with_reducible repeat (first | refine blk_drewN ?_ _ | refine blk_drew ?_ | refine blk_alloc ?_ _)); refine blk_put (cs := #[.int .i64 t148, .int .i64 t149, .int .i64 t150, .bool t151, .int .i64 0]) ?_ 4 _ rfl; (with_reducible repeat (first | refine blk_drewN ?_ _ | refine blk_drew ?_ | refine blk_alloc ?_ _)); refine blk_put (cs := #[.int .i64 t148, .int .i64 t149, .int .i64 t150, .bool false, .int .i64 0]) ?_ 3 _ rfl; (with_reducible repeat (first | refine blk_drewN ?_ _ | refine blk_drew ?_ | refine blk_alloc ?_ _)); refine blk_put (cs := #[.int .i64 t148, .int .i64 t149, .int .i64 0, .bool false, .int .i64 0]) ?_ 2 _ rfl; (with_reducible repeat (first | refine blk_drewN ?_ _ | refine blk_drew ?_ | refine blk_alloc ?_ _)); refine blk_put (cs := #[.int .i64 t148, .int .i64 0, .int .i64 0, .bool false, .int .i64 0]) ?_ 1 _ rfl; (with_reducible repeat (first | refine blk_drewN ?_ _ | refine blk_drew ?_ | refine blk_alloc ?_ _)); refine blk_put (cs := #[.int .i64 0, .int .i64 0, .int .i64 0, .bool false, .int .i64 0]) ?_ 0 _ rfl; (with_reducible repeat (first | refine blk_drewN ?_ _ | refine blk_drew ?_ | refine blk_alloc ?_ _)); exact BK154.out⟩, ⟨by repeat (first | (with_reducible first | exact HB.out | apply below_alloc | apply pw_below_drewN | apply below_drew1 | refine below_set ?_ GE154.out) | exact HB.out)⟩⟩
      · rw [if_neg c12] at H
        have c12b0 : decide (a0 < 1) = false := decide_eq_false c12
        clear c12
        (first | rw [c12b0] | (simp only [i64_w, i32_w]; rw [c12b0]) | skip)
        by_cases c13 : a0 > 1048576
        · rw [if_pos c13] at H
          have c13b0 : decide (1048576 < a0) = true := decide_eq_true c13
          clear c13
          have H' := Aside0.mk H
          clear H
          go_wp2
          go_meet
          case rel => exact ⟨_, (true), (by first | rfl | (simp; done) | (simp [*]; done)), H', ⟨by first | omega | exact Nat.le_refl _⟩, ⟨by (with_reducible repeat (first | refine blk_drewN ?_ _ | refine blk_drew ?_ | refine blk_alloc ?_ _)); refine blk_put (cs := #[.int .i64 t148, .int .i64 t149, .int .i64 t150, .bool t151, .int .i64 0]) ?_ 4 _ rfl; (with_reducible repeat (first | refine blk_drewN ?_ _ | refine blk_drew ?_ | refine blk_alloc ?_ _)); refine blk_put (cs := #[.int .i64 t148, .int .i64 t149, .int .i64 t150, .bool false, .int .i64 0]) ?_ 3 _ rfl; (with_reducible repeat (first | refine blk_drewN ?_ _ | refine blk_drew ?_ | refine blk_alloc ?_ _)); refine blk_put (cs := #[.int .i64 t148, .int .i64 t149, .int .i64 0, .bool false, .int .i64 0]) ?_ 2 _ rfl; (with_reducible repeat (first | refine blk_drewN ?_ _ | refine blk_drew ?_ | refine blk_alloc ?_ _)); refine blk_put (cs := #[.int .i64 t148, .int .i64 0, .int .i64 0, .bool false, .int .i64 0]) ?_ 1 _ rfl; (with_reducible repeat (first | refine blk_drewN ?_ _ | refine blk_drew ?_ | refine blk_alloc ?_ _)); refine blk_put (cs := #[.int .i64 0, .int .i64 0, .int .i64 0, .bool false, .int .i64 0]) ?_ 0 _ rfl; (with_reducible repeat (first | refine blk_drewN ?_ _ | refine blk_drew ?_ | refine blk_alloc ?_ _)); exact BK154.out⟩, ⟨by repeat (first | (with_reducible first | exact HB.out | apply below_alloc | apply pw_below_drewN | apply below_drew1 | refine below_set ?_ GE154.out) | exact HB.out)⟩⟩
        · rw [if_neg c13] at H
          have c13b0 : decide (1048576 < a0) = false := decide_eq_false c13
          clear c13
          by_cases c14 : a1 < 1
          · rw [if_pos c14] at H
            have c14b0 : decide (a1 < 1) = true := decide_eq_true c14
            clear c14
            have H' := Aside0.mk H
            clear H
            go_wp2
            go_meet
            case rel => exact ⟨_, (true), (by first | rfl | (simp; done) | (simp [*]; done)), H', ⟨by first | omega | exact Nat.le_refl _⟩, ⟨by (with_reducible repeat (first | refine blk_drewN ?_ _ | refine blk_drew ?_ | refine blk_alloc ?_ _)); refine blk_put (cs := #[.int .i64 t148, .int .i64 t149, .int .i64 t150, .bool t151, .int .i64 0]) ?_ 4 _ rfl; (with_reducible repeat (first | refine blk_drewN ?_ _ | refine blk_drew ?_ | refine blk_alloc ?_ _)); refine blk_put (cs := #[.int .i64 t148, .int .i64 t149, .int .i64 t150, .bool false, .int .i64 0]) ?_ 3 _ rfl; (with_reducible repeat (first | refine blk_drewN ?_ _ | refine blk_drew ?_ | refine blk_alloc ?_ _)); refine blk_put (cs := #[.int .i64 t148, .int .i64 t149, .int .i64 0, .bool false, .int .i64 0]) ?_ 2 _ rfl; (with_reducible repeat (first | refine blk_drewN ?_ _ | refine blk_drew ?_ | refine blk_alloc ?_ _)); refine blk_put (cs := #[.int .i64 t148, .int .i64 0, .int .i64 0, .bool false, .int .i64 0]) ?_ 1 _ rfl; (with_reducible repeat (first | refine blk_drewN ?_ _ | refine blk_drew ?_ | refine blk_alloc ?_ _)); refine blk_put (cs := #[.int .i64 0, .int .i64 0, .int .i64 0, .bool false, .int .i64 0]) ?_ 0 _ rfl; (with_reducible repeat (first | refine blk_drewN ?_ _ | refine blk_drew ?_ | refine blk_alloc ?_ _)); exact BK154.out⟩, ⟨by repeat (first | (with_reducible first | exact HB.out | apply below_alloc | apply pw_below_drewN | apply below_drew1 | refine below_set ?_ GE154.out) | exact HB.out)⟩⟩
          · rw [if_neg c14] at H
            have c14b0 : decide (a1 < 1) = false := decide_eq_false c14
            clear c14
            have H' := Aside0.mk H
            clear H
            go_wp2
            go_meet
            case rel => exact ⟨_, (decide (a1 > 1048576)), (by first | rfl | (simp; done) | (simp [*]; done)), H', ⟨by first | omega | exact Nat.le_refl _⟩, ⟨by (with_reducible repeat (first | refine blk_drewN ?_ _ | refine blk_drew ?_ | refine blk_alloc ?_ _)); refine blk_put (cs := #[.int .i64 t148, .int .i64 t149, .int .i64 t150, .bool t151, .int .i64 0]) ?_ 4 _ rfl; (with_reducible repeat (first | refine blk_drewN ?_ _ | refine blk_drew ?_ | refine blk_alloc ?_ _)); refine blk_put (cs := #[.int .i64 t148, .int .i64 t149, .int .i64 t150, .bool false, .int .i64 0]) ?_ 3 _ rfl; (with_reducible repeat (first | refine blk_drewN ?_ _ | refine blk_drew ?_ | refine blk_alloc ?_ _)); refine blk_put (cs := #[.int .i64 t148, .int .i64 t149, .int .i64 0, .bool false, .int .i64 0]) ?_ 2 _ rfl; (with_reducible repeat (first | refine blk_drewN ?_ _ | refine blk_drew ?_ | refine blk_alloc ?_ _)); refine blk_put (cs := #[.int .i64 t148, .int .i64 0, .int .i64 0, .bool false, .int .i64 0]) ?_ 1 _ rfl; (with_reducible repeat (first | refine blk_drewN ?_ _ | refine blk_drew ?_ | refine blk_alloc ?_ _)); refine blk_put (cs := #[.int .i64 0, .int .i64 0, .int .i64 0, .bool false, .int .i64 0]) ?_ 0 _ rfl; (with_reducible repeat (first | refine blk_drewN ?_ _ | refine blk_drew ?_ | refine blk_alloc ?_ _)); exact BK154.out⟩, ⟨by repeat (first | (with_reducible first | exact HB.out | apply below_alloc | apply pw_below_drewN | apply below_drew1 | refine below_set ?_ GE154.out) | exact HB.out)⟩⟩
    case rest =>
      clear HC8
      try clear c1
      try clear c2
      try clear p2
      try clear c4
      try clear c4b0
      try clear c4b1
      try clear c7
      try clear c12
      try clear c12b0
      try clear c13
      try clear c13b0
      try clear c14
      try clear c14b0
      try clear hcz11_0
      try clear hcz11_1
      try clear hcz11_2
      try clear hcz11_3
      try clear hcz11_4
      try clear hfz11_0
      try clear hfz11_1
      try clear hfz11_2
      try clear hfz11_3
      try clear hfz11_4
      obtain ⟨kq, x38_7, rfl, HA, HJ7, BK154, HB⟩ := hcut
      cases kq with
      | zero => exact absurd HA.out (by simp [carousellaw15_BurstPlays.j0])
      | succ kj7 =>
        have H := HA.out
        clear HA
        simp only [carousellaw15_BurstPlays.j0] at H
        by_cases c15 : x38_7 = true
        · subst c15
          have H1 : ((carousellaw15_Awake.f kj7).bind fun t155 => (if t155 = true then (if t153 = 4 then (some (t148 == 0 && (t149 == 0 && (t150 == 0 && (!t151 && (t152 == 0)))))) else (some false)) else (some false))) = some r := by rw [if_pos rfl] at H; exact H
          clear H
          have H := H1
          clear H1
          replace H := Option.bind_eq_some_iff.mp H
          obtain ⟨t155, A160, H⟩ := H
          replace H : (if t155 = true then (if t153 = 4 then (some (t148 == 0 && (t149 == 0 && (t150 == 0 && (!t151 && (t152 == 0)))))) else (some false)) else (some false)) = some r := H
          have A16 := Aside0.mk A160
          clear A160
          by_cases c17 : t155 = true
          · subst c17
            have H1 : (if t153 = 4 then (some (t148 == 0 && (t149 == 0 && (t150 == 0 && (!t151 && (t152 == 0)))))) else (some false)) = some r := by rw [if_pos rfl] at H; exact H
            clear H
            have H := H1
            clear H1
            by_cases c18 : t153 = 4
            · rw [if_pos c18] at H
              have c18b0 : (t153 == 4) = true := beq_iff_eq.mpr c18
              have c18b1 : (t153 != 4) = false := bne_eq_false_iff_eq.mpr c18
              clear c18
              obtain rfl := Option.some.inj H
              go_wp2_with (first | ((with_reducible refine gate_callee (f := 25) rfl ?_); refine goesL_ (some 39) rfl rfl Try.func25 (by kernel_rfl) rfl #[] rfl (by (try simp only [List.map_toArray, List.map_cons, List.map_nil]); first | done | rfl | (simp only [List.length_drop, List.length_take]; rfl)) ?_; (with_reducible refine (carousellaw15_Awake.calls kj7  true _ A16.out).mono ?_); rintro e w19 ⟨rfl, hb⟩; refine ⟨_, rfl, ?_⟩; have n0_ := Aside0.mk (blk_below (g := gb154) (o := .cells #[.int .i64 t148, .int .i64 t149, .int .i64 t150, .bool t151, .int .i64 t152] 55 (0, 0)) (by (with_reducible repeat (first | refine blk_drewN ?_ _ | refine blk_drew ?_ | refine blk_alloc ?_ _)); exact BK154.out) hb); have n1_ := Aside0.mk (below_step (by repeat (first | (with_reducible first | exact HB.out | apply below_alloc | apply pw_below_drewN | apply below_drew1 | refine below_set ?_ GE154.out) | exact HB.out)) hb); clear BK154; clear HB; have BK154 := n0_; have HB := n1_; clear n0_ n1_; (try clear hb); (try clear hb2); (try clear hk); (try clear hi); have hcz20_0 : w19.cell? ⟨gb154, 0, none⟩ = some (.int .i64 t148) := (blk_cell BK154.out 0).trans rfl; have hcz20_1 : w19.cell? ⟨gb154, 1, none⟩ = some (.int .i64 t149) := (blk_cell BK154.out 1).trans rfl; have hcz20_2 : w19.cell? ⟨gb154, 2, none⟩ = some (.int .i64 t150) := (blk_cell BK154.out 2).trans rfl; have hcz20_3 : w19.cell? ⟨gb154, 3, none⟩ = some (.bool t151) := (blk_cell BK154.out 3).trans rfl; have hcz20_4 : w19.cell? ⟨gb154, 4, none⟩ = some (.int .i64 t152) := (blk_cell BK154.out 4).trans rfl; have hfz20_0 := blk_frozen BK154.out 0; have hfz20_1 := blk_frozen BK154.out 1; have hfz20_2 := blk_frozen BK154.out 2; have hfz20_3 := blk_frozen BK154.out 3; have hfz20_4 := blk_frozen BK154.out 4))
              go_ret
              exact ⟨by first | rfl | (simp [errW_none, errW_some] <;> rfl) | (simp [*, errW_none, errW_some] <;> rfl), by repeat (first | (with_reducible first | exact HB.out | apply below_alloc | apply pw_below_drewN | apply below_drew1 | refine below_set ?_ GE154.out) | exact HB.out)⟩
            · rw [if_neg c18] at H
              have c18b0 : (t153 == 4) = false := beq_eq_false_iff_ne.mpr c18
              have c18b1 : (t153 != 4) = true := bne_iff_ne.mpr c18
              cases (Option.some.inj H).trans hT
          · replace c17 := Bool.eq_false_iff.mpr c17
            subst c17
            have H1 : (some false) = some r := by rw [if_neg (show ¬ (false = true) by decide)] at H; exact H
            clear H
            have H := H1
            clear H1
            cases (Option.some.inj H).trans hT
        · replace c15 := Bool.eq_false_iff.mpr c15
          subst c15
          have H1 : (carousellaw15_BurstPlays.l0 kj7 t153 0 l2 (l2.length : Int) 0 t148 t149 t150 t151 t152 a0 a1 0 false 0) = some r := by rw [if_neg (show ¬ (false = true) by decide)] at H; exact H
          clear H
          have H := H1
          clear H1
          have H' := Aside0.mk H
          clear H
          go_wp2_with (first | ((with_reducible refine gate_dst (N := 9) rfl ?_); refine box_event ?hg (N := 9) ?hd (cs := #[.int .i64 0, .int .i64 0, .int .i64 0, .bool false, .int .i64 0]) (t := 58) ?hr ?_; (case hd => rfl); (case hg => rfl); (case hr => first | (go_simp; done) | (go_simp; rfl)); intro gb156 hg w21 hbox hb; have n0_ := Aside0.mk (blk_below (g := gb154) (o := .cells #[.int .i64 t148, .int .i64 t149, .int .i64 t150, .bool t151, .int .i64 t152] 55 (0, 0)) (by (with_reducible repeat (first | refine blk_drewN ?_ _ | refine blk_drew ?_ | refine blk_alloc ?_ _)); exact BK154.out) hb); have n1_ := Aside0.mk (below_step (by repeat (first | (with_reducible first | exact HB.out | apply below_alloc | apply pw_below_drewN | apply below_drew1 | refine below_set ?_ GE154.out) | exact HB.out)) hb); have n2_ := Aside0.mk (hbox); have n3_ := Aside0.mk ((by rw [hg]; exact (below_size (by repeat (first | (with_reducible first | exact HB.out | apply below_alloc | apply pw_below_drewN | apply below_drew1 | refine below_set ?_ GE154.out) | exact HB.out))) : w.heap.size ≤ gb156)); have n4_ := Aside0.mk ((by rw [hg]; exact (below_size (by repeat (first | (with_reducible first | exact HB.out | apply below_alloc | apply pw_below_drewN | apply below_drew1 | refine below_set ?_ GE154.out) | exact HB.out))) : w.heap.size ≤ gb156)); have n5_ := Aside0.mk ((by rw [hg]; exact Nat.ne_of_lt (blk_lt (g := gb154) (o := .cells #[.int .i64 t148, .int .i64 t149, .int .i64 t150, .bool t151, .int .i64 t152] 55 (0, 0)) (by (with_reducible repeat (first | refine blk_drewN ?_ _ | refine blk_drew ?_ | refine blk_alloc ?_ _)); exact BK154.out)) : gb154 ≠ gb156)); have n6_ := Aside0.mk ((by rw [hg]; exact Nat.ne_of_gt (blk_lt (g := gb154) (o := .cells #[.int .i64 t148, .int .i64 t149, .int .i64 t150, .bool t151, .int .i64 t152] 55 (0, 0)) (by (with_reducible repeat (first | refine blk_drewN ?_ _ | refine blk_drew ?_ | refine blk_alloc ?_ _)); exact BK154.out)) : gb156 ≠ gb154)); clear BK154; clear HB; have BK154 := n0_; have HB := n1_; have BK156 := n2_; have GW156 := n3_; have GE156 := n4_; have NB154_156 := n5_; have NB156_154 := n6_; clear n0_ n1_ n2_ n3_ n4_ n5_ n6_; clear hb hbox hg; have hnb22 := NB156_154.out; have hnc22 := NB154_156.out; have hcz23_0 : w21.cell? ⟨gb156, 0, none⟩ = some (.int .i64 0) := (blk_cell BK156.out 0).trans rfl; have hcz23_1 : w21.cell? ⟨gb156, 1, none⟩ = some (.int .i64 0) := (blk_cell BK156.out 1).trans rfl; have hcz23_2 : w21.cell? ⟨gb156, 2, none⟩ = some (.int .i64 0) := (blk_cell BK156.out 2).trans rfl; have hcz23_3 : w21.cell? ⟨gb156, 3, none⟩ = some (.bool false) := (blk_cell BK156.out 3).trans rfl; have hcz23_4 : w21.cell? ⟨gb156, 4, none⟩ = some (.int .i64 0) := (blk_cell BK156.out 4).trans rfl; have hfz23_0 := blk_frozen BK156.out 0; have hfz23_1 := blk_frozen BK156.out 1; have hfz23_2 := blk_frozen BK156.out 2; have hfz23_3 := blk_frozen BK156.out 3; have hfz23_4 := blk_frozen BK156.out 4))
          go_loopg [10, 54] kj7 (fun kq v10 v54 w' => ∃ (x10_2 : Int) (x54_2 : Int) (x155000_2 : Int) (x155001_2 : Int) (x155002_2 : Int) (x155003_2 : Bool) (x155004_2 : Int) (x157000_2 : Int) (x157001_2 : Int) (x157002_2 : Int) (x157003_2 : Bool) (x157004_2 : Int), v10 = .int .i64 x10_2 ∧ v54 = .int .i64 x54_2 ∧ Aside0 (carousellaw15_BurstPlays.l0 kq t153 x10_2 l2 (l2.length : Int) x54_2 x155000_2 x155001_2 x155002_2 x155003_2 x155004_2 x157000_2 x157001_2 x157002_2 x157003_2 x157004_2 = some r) ∧ Aside0 (kq ≤ kj7) ∧ Aside0 (w'.heap[gb154]? = some (.cells #[.int .i64 x155000_2, .int .i64 x155001_2, .int .i64 x155002_2, .bool x155003_2, .int .i64 x155004_2] 55 (0, 0))) ∧ Aside0 (w'.heap[gb156]? = some (.cells #[.int .i64 x157000_2, .int .i64 x157001_2, .int .i64 x157002_2, .bool x157003_2, .int .i64 x157004_2] 58 (0, 0))) ∧ Aside0 (Below w.heap.size w w'))
          case atStart => exact ⟨(0), (0), (t148), (t149), (t150), (t151), (t152), (a0), (a1), (0), (false), (0), (by first | rfl | (simp; done) | (simp [*]; done)), (by first | rfl | (simp; done) | (simp [*]; done)), H', ⟨Nat.le_refl _⟩, ⟨by (with_reducible repeat (first | refine blk_drewN ?_ _ | refine blk_drew ?_ | refine blk_alloc ?_ _)); refine blk_far ?_ NB154_156.out _; (with_reducible repeat (first | refine blk_drewN ?_ _ | refine blk_drew ?_ | refine blk_alloc ?_ _)); refine blk_far ?_ NB154_156.out _; (with_reducible repeat (first | refine blk_drewN ?_ _ | refine blk_drew ?_ | refine blk_alloc ?_ _)); refine blk_far ?_ NB154_156.out _; (with_reducible repeat (first | refine blk_drewN ?_ _ | refine blk_drew ?_ | refine blk_alloc ?_ _)); refine blk_far ?_ NB154_156.out _; (with_reducible repeat (first | refine blk_drewN ?_ _ | refine blk_drew ?_ | refine blk_alloc ?_ _)); refine blk_far ?_ NB154_156.out _; (with_reducible repeat (first | refine blk_drewN ?_ _ | refine blk_drew ?_ | refine blk_alloc ?_ _)); exact BK154.out⟩, ⟨by (with_reducible repeat (first | refine blk_drewN ?_ _ | refine blk_drew ?_ | refine blk_alloc ?_ _)); refine blk_put (cs := #[.int .i64 a0, .int .i64 a1, .int .i64 0, .bool false, .int .i64 0]) ?_ 4 _ rfl; (with_reducible repeat (first | refine blk_drewN ?_ _ | refine blk_drew ?_ | refine blk_alloc ?_ _)); refine blk_put (cs := #[.int .i64 a0, .int .i64 a1, .int .i64 0, .bool false, .int .i64 0]) ?_ 3 _ rfl; (with_reducible repeat (first | refine blk_drewN ?_ _ | refine blk_drew ?_ | refine blk_alloc ?_ _)); refine blk_put (cs := #[.int .i64 a0, .int .i64 a1, .int .i64 0, .bool false, .int .i64 0]) ?_ 2 _ rfl; (with_reducible repeat (first | refine blk_drewN ?_ _ | refine blk_drew ?_ | refine blk_alloc ?_ _)); refine blk_put (cs := #[.int .i64 a0, .int .i64 0, .int .i64 0, .bool false, .int .i64 0]) ?_ 1 _ rfl; (with_reducible repeat (first | refine blk_drewN ?_ _ | refine blk_drew ?_ | refine blk_alloc ?_ _)); refine blk_put (cs := #[.int .i64 0, .int .i64 0, .int .i64 0, .bool false, .int .i64 0]) ?_ 0 _ rfl; (with_reducible repeat (first | refine blk_drewN ?_ _ | refine blk_drew ?_ | refine blk_alloc ?_ _)); exact BK156.out⟩, ⟨by repeat (first | (with_reducible first | exact HB.out | apply below_alloc | apply pw_below_drewN | apply below_drew1 | refine below_set ?_ GE154.out | refine below_set ?_ GE156.out) | exact HB.out)⟩⟩
          case round =>
            clear H'
            try clear c1
            try clear c2
            try clear p2
            try clear c4
            try clear c4b0
            try clear c4b1
            try clear c7
            try clear c12
            try clear c12b0
            try clear c13
            try clear c13b0
            try clear c14
            try clear c14b0
            try clear c15
            try clear c17
            try clear c18
            try clear c18b0
            try clear c18b1
            try clear c22
            try clear hcz11_0
            try clear hcz11_1
            try clear hcz11_2
            try clear hcz11_3
            try clear hcz11_4
            try clear hcz20_0
            try clear hcz20_1
            try clear hcz20_2
            try clear hcz20_3
            try clear hcz20_4
            try clear hcz23_0
            try clear hcz23_1
            try clear hcz23_2
            try clear hcz23_3
            try clear hcz23_4
            try clear hfz11_0
            try clear hfz11_1
            try clear hfz11_2
            try clear hfz11_3
            try clear hfz11_4
            try clear hfz20_0
            try clear hfz20_1
            try clear hfz20_2
            try clear hfz20_3
            try clear hfz20_4
            try clear hfz23_0
            try clear hfz23_1
            try clear hfz23_2
            try clear hfz23_3
            try clear hfz23_4
            try clear p2
            obtain ⟨x10_2, x54_2, x155000_2, x155001_2, x155002_2, x155003_2, x155004_2, x157000_2, x157001_2, x157002_2, x157003_2, x157004_2, rfl, rfl, HA, HK2, BK154, BK156, HB⟩ := hrel
            cases gk with
            | zero => exact absurd HA.out (by simp [carousellaw15_BurstPlays.l0])
            | succ k2 =>
              have H := HA.out
              clear HA
              simp only [carousellaw15_BurstPlays.l0] at H
              by_cases c24 : x54_2 < (l2.length : Int)
              · rw [if_pos c24] at H
                have c24b0 : decide (x54_2 < (l2.length : Int)) = true := decide_eq_true c24
                clear c24
                by_cases c25 : 0 ≤ x54_2
                · rw [if_pos c25] at H
                  have c25b0 : decide (0 ≤ x54_2) = true := decide_eq_true c25
                  clear c25
                  by_cases c26 : x54_2 < (l2.length : Int)
                  · rw [if_pos c26] at H
                    have c26b0 : decide (x54_2 < (l2.length : Int)) = true := decide_eq_true c26
                    clear c26
                    have HC27 := Aside0.mk H
                    clear H
                    have p158 : 0 ≤ (x54_2 : Int) := of_decide_eq_true (by first | (with_reducible assumption) | assumption)
                    have q158 : x54_2 < (l2.length : Int) := of_decide_eq_true (by first | (with_reducible assumption) | assumption)
                    obtain ⟨ad158, e158, hx158_0, hx158_1⟩ := at_T61 HR2.out x54_2 p158 q158
                    cases e158
                    replace hx158_0 := (HB.out.cell (World.block_lt_of_cell? w _ hx158_0)).trans hx158_0
                    replace hx158_1 := (HB.out.cell (World.block_lt_of_cell? w _ hx158_1)).trans hx158_1
                    replace p158 := eq_true p158
                    replace q158 := eq_true q158
                    go_upto_block 2 with (first | ((with_reducible refine gate_dst (N := 12) rfl ?_); refine box_event ?hg (N := 12) ?hd (cs := #[.int .u8 0, .int .u16 0]) (t := 61) ?hr ?_; (case hd => rfl); (case hg => rfl); (case hr => first | (go_simp; done) | (go_simp; rfl)); intro gb159 hg w28 hbox hb; have n0_ := Aside0.mk (blk_below (g := gb154) (o := .cells #[.int .i64 x155000_2, .int .i64 x155001_2, .int .i64 x155002_2, .bool x155003_2, .int .i64 x155004_2] 55 (0, 0)) (by (with_reducible repeat (first | refine blk_drewN ?_ _ | refine blk_drew ?_ | refine blk_alloc ?_ _)); exact BK154.out) hb); have n1_ := Aside0.mk (blk_below (g := gb156) (o := .cells #[.int .i64 x157000_2, .int .i64 x157001_2, .int .i64 x157002_2, .bool x157003_2, .int .i64 x157004_2] 58 (0, 0)) (by (with_reducible repeat (first | refine blk_drewN ?_ _ | refine blk_drew ?_ | refine blk_alloc ?_ _)); exact BK156.out) hb); have n2_ := Aside0.mk (below_step (by repeat (first | (with_reducible first | exact HB.out | apply below_alloc | apply pw_below_drewN | apply below_drew1 | refine below_set ?_ GE154.out | refine below_set ?_ GE156.out) | exact HB.out)) hb); have n3_ := Aside0.mk (hbox); have n4_ := Aside0.mk ((by rw [hg]; exact (below_size (by repeat (first | (with_reducible first | exact HB.out | apply below_alloc | apply pw_below_drewN | apply below_drew1 | refine below_set ?_ GE154.out | refine below_set ?_ GE156.out) | exact HB.out))) : w.heap.size ≤ gb159)); have n5_ := Aside0.mk ((by rw [hg]; exact (below_size (by repeat (first | (with_reducible first | exact HB.out | apply below_alloc | apply pw_below_drewN | apply below_drew1 | refine below_set ?_ GE154.out | refine below_set ?_ GE156.out) | exact HB.out))) : w.heap.size ≤ gb159)); have n6_ := Aside0.mk ((by rw [hg]; exact Nat.ne_of_lt (blk_lt (g := gb154) (o := .cells #[.int .i64 x155000_2, .int .i64 x155001_2, .int .i64 x155002_2, .bool x155003_2, .int .i64 x155004_2] 55 (0, 0)) (by (with_reducible repeat (first | refine blk_drewN ?_ _ | refine blk_drew ?_ | refine blk_alloc ?_ _)); exact BK154.out)) : gb154 ≠ gb159)); have n7_ := Aside0.mk ((by rw [hg]; exact Nat.ne_of_gt (blk_lt (g := gb154) (o := .cells #[.int .i64 x155000_2, .int .i64 x155001_2, .int .i64 x155002_2, .bool x155003_2, .int .i64 x155004_2] 55 (0, 0)) (by (with_reducible repeat (first | refine blk_drewN ?_ _ | refine blk_drew ?_ | refine blk_alloc ?_ _)); exact BK154.out)) : gb159 ≠ gb154)); have n8_ := Aside0.mk ((by rw [hg]; exact Nat.ne_of_lt (blk_lt (g := gb156) (o := .cells #[.int .i64 x157000_2, .int .i64 x157001_2, .int .i64 x157002_2, .bool x157003_2, .int .i64 x157004_2] 58 (0, 0)) (by (with_reducible repeat (first | refine blk_drewN ?_ _ | refine blk_drew ?_ | refine blk_alloc ?_ _)); exact BK156.out)) : gb156 ≠ gb159)); have n9_ := Aside0.mk ((by rw [hg]; exact Nat.ne_of_gt (blk_lt (g := gb156) (o := .cells #[.int .i64 x157000_2, .int .i64 x157001_2, .int .i64 x157002_2, .bool x157003_2, .int .i64 x157004_2] 58 (0, 0)) (by (with_reducible repeat (first | refine blk_drewN ?_ _ | refine blk_drew ?_ | refine blk_alloc ?_ _)); exact BK156.out)) : gb159 ≠ gb156)); clear BK154; clear BK156; clear HB; have BK154 := n0_; have BK156 := n1_; have HB := n2_; have BK159 := n3_; have GW159 := n4_; have GE159 := n5_; have NB154_159 := n6_; have NB159_154 := n7_; have NB156_159 := n8_; have NB159_156 := n9_; clear n0_ n1_ n2_ n3_ n4_ n5_ n6_ n7_ n8_ n9_; clear hb hbox hg; have hnb29 := NB159_154.out; have hnc29 := NB154_159.out; have hnb30 := NB159_156.out; have hnc30 := NB156_159.out; have hcz31_0 : w28.cell? ⟨gb159, 0, none⟩ = some (.int .u8 0) := (blk_cell BK159.out 0).trans rfl; have hcz31_1 : w28.cell? ⟨gb159, 1, none⟩ = some (.int .u16 0) := (blk_cell BK159.out 1).trans rfl; have hfz31_0 := blk_frozen BK159.out 0; have hfz31_1 := blk_frozen BK159.out 1; have hsaz31_ : ∀ u, (w28.setCell ⟨gb159, 0, none⟩ u).cell? ⟨gb159, 1, none⟩ = some (.int .u16 0) := (fun u => Eq.trans (World.cell?_setCell_other _ _ _ _ (by intro he; cases he)) hcz31_1); have hsbz31_ : ∀ u v, ((w28.setCell ⟨gb159, 0, none⟩ u).setCell ⟨gb159, 1, none⟩ v).cell? ⟨gb159, 1, none⟩ = some v := (fun u v => World.cell?_setCell_same _ _ _ (hsaz31_ u))))
                    (try simp only [Act.put, List.setIfInBounds_toArray, List.set_cons_zero, List.set_cons_succ])
                    go_cut [13, 14] (fun v13 v14 wc => ∃ (kq : Nat) (x13_26 : Bool) (x14_26 : Bool) (x155000_26 : Int) (x155001_26 : Int) (x155002_26 : Int) (x155003_26 : Bool) (x155004_26 : Int) (x157000_26 : Int) (x157001_26 : Int) (x157002_26 : Int) (x157003_26 : Bool) (x157004_26 : Int), v13 = .bool x13_26 ∧ v14 = .bool x14_26 ∧ Aside0 (carousellaw15_BurstPlays.j2 kq t153 (wrap64 (x10_2 + (wrap64 ((rd_T61 l2 x54_2).f1)))) x13_26 x14_26 l2 (l2.length : Int) x54_2 x155000_26 x155001_26 x155002_26 x155003_26 x155004_26 x157000_26 x157001_26 x157002_26 x157003_26 x157004_26 = some r) ∧ Aside0 (kq ≤ k2) ∧ Aside0 (wc.heap[gb154]? = some (.cells #[.int .i64 x155000_26, .int .i64 x155001_26, .int .i64 x155002_26, .bool x155003_26, .int .i64 x155004_26] 55 (0, 0))) ∧ Aside0 (wc.heap[gb156]? = some (.cells #[.int .i64 x157000_26, .int .i64 x157001_26, .int .i64 x157002_26, .bool x157003_26, .int .i64 x157004_26] 58 (0, 0))) ∧ Aside0 (wc.heap[gb159]? = some (.cells #[.int .u8 ((rd_T61 l2 x54_2).f0), .int .u16 ((rd_T61 l2 x54_2).f1)] 61 (0, 0))) ∧ Aside0 (Below w.heap.size w wc))
                    case first =>
                      have H := HC27.out
                      clear HC27
                      by_cases c32 : ((rd_T61 l2 x54_2).f0) = 0
                      · rw [if_pos c32] at H
                        have c32b0 : (((rd_T61 l2 x54_2).f0) == 0) = true := beq_iff_eq.mpr c32
                        have c32b1 : (((rd_T61 l2 x54_2).f0) != 0) = false := bne_eq_false_iff_eq.mpr c32
                        clear c32
                        (first | rw [c32b0] | (simp only [i64_w, i32_w]; rw [c32b0]) | skip)
                        replace H := Option.bind_eq_some_iff.mp H
                        obtain ⟨⟨t160, t161, t162, t163, t164, t165⟩, A330, H⟩ := H
                        replace H : ((carouselref15_Tick.f k2 x157000_2 x157001_2 x157002_2 x157003_2 x157004_2 (wrap64 (x10_2 + (wrap64 ((rd_T61 l2 x54_2).f1))))).bind fun bt166 => (carousellaw15_BurstPlays.j2 k2 t153 (wrap64 (x10_2 + (wrap64 ((rd_T61 l2 x54_2).f1)))) t165 bt166.2.2.2.2.2 l2 (l2.length : Int) x54_2 t160 t161 t162 t163 t164 bt166.1 bt166.2.1 bt166.2.2.1 bt166.2.2.2.1 bt166.2.2.2.2.1)) = some r := H
                        have A33 := Aside0.mk A330
                        clear A330
                        replace H := Option.bind_eq_some_iff.mp H
                        obtain ⟨⟨t166, t167, t168, t169, t170, t171⟩, A340, H⟩ := H
                        replace H : (carousellaw15_BurstPlays.j2 k2 t153 (wrap64 (x10_2 + (wrap64 ((rd_T61 l2 x54_2).f1)))) t165 t171 l2 (l2.length : Int) x54_2 t160 t161 t162 t163 t164 t166 t167 t168 t169 t170) = some r := H
                        have A34 := Aside0.mk A340
                        clear A340
                        have H' := Aside0.mk H
                        clear H
                        have hnb35 := NB154_156.out
                        have hnc35 := NB156_154.out
                        have hnb36 := NB154_159.out
                        have hnc36 := NB159_154.out
                        have hcz37_0 : w28.cell? ⟨gb154, 0, none⟩ = some (.int .i64 x155000_2) := (blk_cell BK154.out 0).trans rfl
                        have hcz37_1 : w28.cell? ⟨gb154, 1, none⟩ = some (.int .i64 x155001_2) := (blk_cell BK154.out 1).trans rfl
                        have hcz37_2 : w28.cell? ⟨gb154, 2, none⟩ = some (.int .i64 x155002_2) := (blk_cell BK154.out 2).trans rfl
                        have hcz37_3 : w28.cell? ⟨gb154, 3, none⟩ = some (.bool x155003_2) := (blk_cell BK154.out 3).trans rfl
                        have hcz37_4 : w28.cell? ⟨gb154, 4, none⟩ = some (.int .i64 x155004_2) := (blk_cell BK154.out 4).trans rfl
                        have hfz37_0 := blk_frozen BK154.out 0
                        have hfz37_1 := blk_frozen BK154.out 1
                        have hfz37_2 := blk_frozen BK154.out 2
                        have hfz37_3 := blk_frozen BK154.out 3
                        have hfz37_4 := blk_frozen BK154.out 4
                        go_wp2_with (first | ((with_reducible refine gate_callee (f := 27) rfl ?_); refine goesL_ (some 70) rfl rfl Try.func27 (by kernel_rfl) rfl #[.agg #[.int .i64 x155000_2, .int .i64 x155001_2, .int .i64 x155002_2, .bool x155003_2, .int .i64 x155004_2], .int .i64 (wrap64 (x10_2 + (wrap64 ((rd_T61 l2 x54_2).f1))))] rfl (by (try simp only [List.map_toArray, List.map_cons, List.map_nil]); first | done | rfl | (simp only [List.length_drop, List.length_take]; rfl)) ?_; (with_reducible refine (burst_Burst_Tick.calls k2 x155000_2 x155001_2 x155002_2 x155003_2 x155004_2 (wrap64 (x10_2 + (wrap64 ((rd_T61 l2 x54_2).f1)))) t160 t161 t162 t163 t164 t165 _ A33.out).mono ?_); rintro e w38 ⟨rfl, hb⟩; refine ⟨_, rfl, ?_⟩; have n0_ := Aside0.mk (blk_below (g := gb154) (o := .cells #[.int .i64 x155000_2, .int .i64 x155001_2, .int .i64 x155002_2, .bool x155003_2, .int .i64 x155004_2] 55 (0, 0)) (by (with_reducible repeat (first | refine blk_drewN ?_ _ | refine blk_drew ?_ | refine blk_alloc ?_ _)); refine blk_far ?_ NB154_159.out _; (with_reducible repeat (first | refine blk_drewN ?_ _ | refine blk_drew ?_ | refine blk_alloc ?_ _)); refine blk_far ?_ NB154_159.out _; (with_reducible repeat (first | refine blk_drewN ?_ _ | refine blk_drew ?_ | refine blk_alloc ?_ _)); exact BK154.out) hb); have n1_ := Aside0.mk (blk_below (g := gb156) (o := .cells #[.int .i64 x157000_2, .int .i64 x157001_2, .int .i64 x157002_2, .bool x157003_2, .int .i64 x157004_2] 58 (0, 0)) (by (with_reducible repeat (first | refine blk_drewN ?_ _ | refine blk_drew ?_ | refine blk_alloc ?_ _)); refine blk_far ?_ NB156_159.out _; (with_reducible repeat (first | refine blk_drewN ?_ _ | refine blk_drew ?_ | refine blk_alloc ?_ _)); refine blk_far ?_ NB156_159.out _; (with_reducible repeat (first | refine blk_drewN ?_ _ | refine blk_drew ?_ | refine blk_alloc ?_ _)); exact BK156.out) hb); have n2_ := Aside0.mk (blk_below (g := gb159) (o := .cells #[.int .u8 ((rd_T61 l2 x54_2).f0), .int .u16 ((rd_T61 l2 x54_2).f1)] 61 (0, 0)) (by (with_reducible repeat (first | refine blk_drewN ?_ _ | refine blk_drew ?_ | refine blk_alloc ?_ _)); refine blk_put (cs := #[.int .u8 ((rd_T61 l2 x54_2).f0), .int .u16 0]) ?_ 1 _ rfl; (with_reducible repeat (first | refine blk_drewN ?_ _ | refine blk_drew ?_ | refine blk_alloc ?_ _)); refine blk_put (cs := #[.int .u8 0, .int .u16 0]) ?_ 0 _ rfl; (with_reducible repeat (first | refine blk_drewN ?_ _ | refine blk_drew ?_ | refine blk_alloc ?_ _)); exact BK159.out) hb); have n3_ := Aside0.mk (below_step (by repeat (first | (with_reducible first | exact HB.out | apply below_alloc | apply pw_below_drewN | apply below_drew1 | refine below_set ?_ GE154.out | refine below_set ?_ GE156.out | refine below_set ?_ GE159.out) | exact HB.out)) hb); clear BK154; clear BK156; clear BK159; clear HB; have BK154 := n0_; have BK156 := n1_; have BK159 := n2_; have HB := n3_; clear n0_ n1_ n2_ n3_; (try clear hb); (try clear hb2); (try clear hk); (try clear hi); have hcz39_0 : w38.cell? ⟨gb154, 0, none⟩ = some (.int .i64 x155000_2) := (blk_cell BK154.out 0).trans rfl; have hcz39_1 : w38.cell? ⟨gb154, 1, none⟩ = some (.int .i64 x155001_2) := (blk_cell BK154.out 1).trans rfl; have hcz39_2 : w38.cell? ⟨gb154, 2, none⟩ = some (.int .i64 x155002_2) := (blk_cell BK154.out 2).trans rfl; have hcz39_3 : w38.cell? ⟨gb154, 3, none⟩ = some (.bool x155003_2) := (blk_cell BK154.out 3).trans rfl; have hcz39_4 : w38.cell? ⟨gb154, 4, none⟩ = some (.int .i64 x155004_2) := (blk_cell BK154.out 4).trans rfl; have hfz39_0 := blk_frozen BK154.out 0; have hfz39_1 := blk_frozen BK154.out 1; have hfz39_2 := blk_frozen BK154.out 2; have hfz39_3 := blk_frozen BK154.out 3; have hfz39_4 := blk_frozen BK154.out 4; have hnb40 := NB156_159.out; have hnc40 := NB159_156.out; have hcz41_0 : w38.cell? ⟨gb156, 0, none⟩ = some (.int .i64 x157000_2) := (blk_cell BK156.out 0).trans rfl; have hcz41_1 : w38.cell? ⟨gb156, 1, none⟩ = some (.int .i64 x157001_2) := (blk_cell BK156.out 1).trans rfl; have hcz41_2 : w38.cell? ⟨gb156, 2, none⟩ = some (.int .i64 x157002_2) := (blk_cell BK156.out 2).trans rfl; have hcz41_3 : w38.cell? ⟨gb156, 3, none⟩ = some (.bool x157003_2) := (blk_cell BK156.out 3).trans rfl; have hcz41_4 : w38.cell? ⟨gb156, 4, none⟩ = some (.int .i64 x157004_2) := (blk_cell BK156.out 4).trans rfl; have hfz41_0 := blk_frozen BK156.out 0; have hfz41_1 := blk_frozen BK156.out 1; have hfz41_2 := blk_frozen BK156.out 2; have hfz41_3 := blk_frozen BK156.out 3; have hfz41_4 := blk_frozen BK156.out 4) | ((with_reducible refine gate_callee (f := 28) rfl ?_); refine goesL_ (some 76) rfl rfl Try.func28 (by kernel_rfl) rfl #[.agg #[.int .i64 x157000_2, .int .i64 x157001_2, .int .i64 x157002_2, .bool x157003_2, .int .i64 x157004_2], .int .i64 (wrap64 (x10_2 + (wrap64 ((rd_T61 l2 x54_2).f1))))] rfl (by (try simp only [List.map_toArray, List.map_cons, List.map_nil]); first | done | rfl | (simp only [List.length_drop, List.length_take]; rfl)) ?_; (with_reducible refine (carouselref15_Tick.calls k2 x157000_2 x157001_2 x157002_2 x157003_2 x157004_2 (wrap64 (x10_2 + (wrap64 ((rd_T61 l2 x54_2).f1)))) t166 t167 t168 t169 t170 t171 _ A34.out).mono ?_); rintro e w42 ⟨rfl, hb⟩; refine ⟨_, rfl, ?_⟩; have n0_ := Aside0.mk (blk_below (g := gb154) (o := .cells #[.int .i64 t160, .int .i64 t161, .int .i64 t162, .bool t163, .int .i64 t164] 55 (0, 0)) (by (with_reducible repeat (first | refine blk_drewN ?_ _ | refine blk_drew ?_ | refine blk_alloc ?_ _)); refine blk_put (cs := #[.int .i64 t160, .int .i64 t161, .int .i64 t162, .bool t163, .int .i64 x155004_2]) ?_ 4 _ rfl; (with_reducible repeat (first | refine blk_drewN ?_ _ | refine blk_drew ?_ | refine blk_alloc ?_ _)); refine blk_put (cs := #[.int .i64 t160, .int .i64 t161, .int .i64 t162, .bool x155003_2, .int .i64 x155004_2]) ?_ 3 _ rfl; (with_reducible repeat (first | refine blk_drewN ?_ _ | refine blk_drew ?_ | refine blk_alloc ?_ _)); refine blk_put (cs := #[.int .i64 t160, .int .i64 t161, .int .i64 x155002_2, .bool x155003_2, .int .i64 x155004_2]) ?_ 2 _ rfl; (with_reducible repeat (first | refine blk_drewN ?_ _ | refine blk_drew ?_ | refine blk_alloc ?_ _)); refine blk_put (cs := #[.int .i64 t160, .int .i64 x155001_2, .int .i64 x155002_2, .bool x155003_2, .int .i64 x155004_2]) ?_ 1 _ rfl; (with_reducible repeat (first | refine blk_drewN ?_ _ | refine blk_drew ?_ | refine blk_alloc ?_ _)); refine blk_put (cs := #[.int .i64 x155000_2, .int .i64 x155001_2, .int .i64 x155002_2, .bool x155003_2, .int .i64 x155004_2]) ?_ 0 _ rfl; (with_reducible repeat (first | refine blk_drewN ?_ _ | refine blk_drew ?_ | refine blk_alloc ?_ _)); exact BK154.out) hb); have n1_ := Aside0.mk (blk_below (g := gb156) (o := .cells #[.int .i64 x157000_2, .int .i64 x157001_2, .int .i64 x157002_2, .bool x157003_2, .int .i64 x157004_2] 58 (0, 0)) (by (with_reducible repeat (first | refine blk_drewN ?_ _ | refine blk_drew ?_ | refine blk_alloc ?_ _)); refine blk_far ?_ NB156_154.out _; (with_reducible repeat (first | refine blk_drewN ?_ _ | refine blk_drew ?_ | refine blk_alloc ?_ _)); refine blk_far ?_ NB156_154.out _; (with_reducible repeat (first | refine blk_drewN ?_ _ | refine blk_drew ?_ | refine blk_alloc ?_ _)); refine blk_far ?_ NB156_154.out _; (with_reducible repeat (first | refine blk_drewN ?_ _ | refine blk_drew ?_ | refine blk_alloc ?_ _)); refine blk_far ?_ NB156_154.out _; (with_reducible repeat (first | refine blk_drewN ?_ _ | refine blk_drew ?_ | refine blk_alloc ?_ _)); refine blk_far ?_ NB156_154.out _; (with_reducible repeat (first | refine blk_drewN ?_ _ | refine blk_drew ?_ | refine blk_alloc ?_ _)); exact BK156.out) hb); have n2_ := Aside0.mk (blk_below (g := gb159) (o := .cells #[.int .u8 ((rd_T61 l2 x54_2).f0), .int .u16 ((rd_T61 l2 x54_2).f1)] 61 (0, 0)) (by (with_reducible repeat (first | refine blk_drewN ?_ _ | refine blk_drew ?_ | refine blk_alloc ?_ _)); refine blk_far ?_ NB159_154.out _; (with_reducible repeat (first | refine blk_drewN ?_ _ | refine blk_drew ?_ | refine blk_alloc ?_ _)); refine blk_far ?_ NB159_154.out _; (with_reducible repeat (first | refine blk_drewN ?_ _ | refine blk_drew ?_ | refine blk_alloc ?_ _)); refine blk_far ?_ NB159_154.out _; (with_reducible repeat (first | refine blk_drewN ?_ _ | refine blk_drew ?_ | refine blk_alloc ?_ _)); refine blk_far ?_ NB159_154.out _; (with_reducible repeat (first | refine blk_drewN ?_ _ | refine blk_drew ?_ | refine blk_alloc ?_ _)); refine blk_far ?_ NB159_154.out _; (with_reducible repeat (first | refine blk_drewN ?_ _ | refine blk_drew ?_ | refine blk_alloc ?_ _)); exact BK159.out) hb); have n3_ := Aside0.mk (below_step (by repeat (first | (with_reducible first | exact HB.out | apply below_alloc | apply pw_below_drewN | apply below_drew1 | refine below_set ?_ GE154.out | refine below_set ?_ GE156.out | refine below_set ?_ GE159.out) | exact HB.out)) hb); clear BK154; clear BK156; clear BK159; clear HB; have BK154 := n0_; have BK156 := n1_; have BK159 := n2_; have HB := n3_; clear n0_ n1_ n2_ n3_; (try clear hb); (try clear hb2); (try clear hk); (try clear hi); have hcz43_0 : w42.cell? ⟨gb156, 0, none⟩ = some (.int .i64 x157000_2) := (blk_cell BK156.out 0).trans rfl; have hcz43_1 : w42.cell? ⟨gb156, 1, none⟩ = some (.int .i64 x157001_2) := (blk_cell BK156.out 1).trans rfl; have hcz43_2 : w42.cell? ⟨gb156, 2, none⟩ = some (.int .i64 x157002_2) := (blk_cell BK156.out 2).trans rfl; have hcz43_3 : w42.cell? ⟨gb156, 3, none⟩ = some (.bool x157003_2) := (blk_cell BK156.out 3).trans rfl; have hcz43_4 : w42.cell? ⟨gb156, 4, none⟩ = some (.int .i64 x157004_2) := (blk_cell BK156.out 4).trans rfl; have hfz43_0 := blk_frozen BK156.out 0; have hfz43_1 := blk_frozen BK156.out 1; have hfz43_2 := blk_frozen BK156.out 2; have hfz43_3 := blk_frozen BK156.out 3; have hfz43_4 := blk_frozen BK156.out 4))
                        go_meet
                        case rel => exact ⟨_, (t165), (t171), (t160), (t161), (t162), (t163), (t164), (t166), (t167), (t168), (t169), (t170), (by first | rfl | (simp; done) | (simp [*]; done)), (by first | rfl | (simp; done) | (simp [*]; done)), H', ⟨by have := HJ7.out; have := HK2.out; first | omega | exact Nat.le_refl _⟩, ⟨by (with_reducible repeat (first | refine blk_drewN ?_ _ | refine blk_drew ?_ | refine blk_alloc ?_ _)); refine blk_far ?_ NB154_156.out _; (with_reducible repeat (first | refine blk_drewN ?_ _ | refine blk_drew ?_ | refine blk_alloc ?_ _)); refine blk_far ?_ NB154_156.out _; (with_reducible repeat (first | refine blk_drewN ?_ _ | refine blk_drew ?_ | refine blk_alloc ?_ _)); refine blk_far ?_ NB154_156.out _; (with_reducible repeat (first | refine blk_drewN ?_ _ | refine blk_drew ?_ | refine blk_alloc ?_ _)); refine blk_far ?_ NB154_156.out _; (with_reducible repeat (first | refine blk_drewN ?_ _ | refine blk_drew ?_ | refine blk_alloc ?_ _)); refine blk_far ?_ NB154_156.out _; (with_reducible repeat (first | refine blk_drewN ?_ _ | refine blk_drew ?_ | refine blk_alloc ?_ _)); exact BK154.out⟩, ⟨by (with_reducible repeat (first | refine blk_drewN ?_ _ | refine blk_drew ?_ | refine blk_alloc ?_ _)); refine blk_put (cs := #[.int .i64 t166, .int .i64 t167, .int .i64 t168, .bool t169, .int .i64 x157004_2]) ?_ 4 _ rfl; (with_reducible repeat (first | refine blk_drewN ?_ _ | refine blk_drew ?_ | refine blk_alloc ?_ _)); refine blk_put (cs := #[.int .i64 t166, .int .i64 t167, .int .i64 t168, .bool x157003_2, .int .i64 x157004_2]) ?_ 3 _ rfl; (with_reducible repeat (first | refine blk_drewN ?_ _ | refine blk_drew ?_ | refine blk_alloc ?_ _)); refine blk_put (cs := #[.int .i64 t166, .int .i64 t167, .int .i64 x157002_2, .bool x157003_2, .int .i64 x157004_2]) ?_ 2 _ rfl; (with_reducible repeat (first | refine blk_drewN ?_ _ | refine blk_drew ?_ | refine blk_alloc ?_ _)); refine blk_put (cs := #[.int .i64 t166, .int .i64 x157001_2, .int .i64 x157002_2, .bool x157003_2, .int .i64 x157004_2]) ?_ 1 _ rfl; (with_reducible repeat (first | refine blk_drewN ?_ _ | refine blk_drew ?_ | refine blk_alloc ?_ _)); refine blk_put (cs := #[.int .i64 x157000_2, .int .i64 x157001_2, .int .i64 x157002_2, .bool x157003_2, .int .i64 x157004_2]) ?_ 0 _ rfl; (with_reducible repeat (first | refine blk_drewN ?_ _ | refine blk_drew ?_ | refine blk_alloc ?_ _)); exact BK156.out⟩, ⟨by (with_reducible repeat (first | refine blk_drewN ?_ _ | refine blk_drew ?_ | refine blk_alloc ?_ _)); refine blk_far ?_ NB159_156.out _; (with_reducible repeat (first | refine blk_drewN ?_ _ | refine blk_drew ?_ | refine blk_alloc ?_ _)); refine blk_far ?_ NB159_156.out _; (with_reducible repeat (first | refine blk_drewN ?_ _ | refine blk_drew ?_ | refine blk_alloc ?_ _)); refine blk_far ?_ NB159_156.out _; (with_reducible repeat (first | refine blk_drewN ?_ _ | refine blk_drew ?_ | refine blk_alloc ?_ _)); refine blk_far ?_ NB159_156.out _; (with_reducible repeat (first | refine blk_drewN ?_ _ | refine blk_drew ?_ | refine blk_alloc ?_ _)); refine blk_far ?_ NB159_156.out _; (with_reducible repeat (first | refine blk_drewN ?_ _ | refine blk_drew ?_ | refine blk_alloc ?_ _)); exact BK159.out⟩, ⟨by repeat (first | (with_reducible first | exact HB.out | apply below_alloc | apply pw_below_drewN | apply below_drew1 | refine below_set ?_ GE154.out | refine below_set ?_ GE156.out | refine below_set ?_ GE159.out) | exact HB.out)⟩⟩
                      · rw [if_neg c32] at H
                        have c32b0 : (((rd_T61 l2 x54_2).f0) == 0) = false := beq_eq_false_iff_ne.mpr c32
                        have c32b1 : (((rd_T61 l2 x54_2).f0) != 0) = true := bne_iff_ne.mpr c32
                        (first | rw [c32b0] | (simp only [i64_w, i32_w]; rw [c32b0]) | skip)
                        by_cases c44 : ((rd_T61 l2 x54_2).f0) = 1
                        · rw [if_pos c44] at H
                          have c44b0 : (((rd_T61 l2 x54_2).f0) == 1) = true := beq_iff_eq.mpr c44
                          have c44b1 : (((rd_T61 l2 x54_2).f0) != 1) = false := bne_eq_false_iff_eq.mpr c44
                          clear c44
                          replace H := Option.bind_eq_some_iff.mp H
                          obtain ⟨⟨t172, t173, t174, t175, t176⟩, A450, H⟩ := H
                          replace H : ((carouselref15_Begin.f x157000_2 x157001_2 x157002_2 x157003_2 x157004_2 (wrap64 (x10_2 + (wrap64 ((rd_T61 l2 x54_2).f1))))).bind fun bt177 => (carousellaw15_BurstPlays.j2 k2 t153 (wrap64 (x10_2 + (wrap64 ((rd_T61 l2 x54_2).f1)))) false false l2 (l2.length : Int) x54_2 t172 t173 t174 t175 t176 bt177.1 bt177.2.1 bt177.2.2.1 bt177.2.2.2.1 bt177.2.2.2.2)) = some r := H
                          have A45 := Aside0.mk A450
                          clear A450
                          replace H := Option.bind_eq_some_iff.mp H
                          obtain ⟨⟨t177, t178, t179, t180, t181⟩, A460, H⟩ := H
                          replace H : (carousellaw15_BurstPlays.j2 k2 t153 (wrap64 (x10_2 + (wrap64 ((rd_T61 l2 x54_2).f1)))) false false l2 (l2.length : Int) x54_2 t172 t173 t174 t175 t176 t177 t178 t179 t180 t181) = some r := H
                          have A46 := Aside0.mk A460
                          clear A460
                          have H' := Aside0.mk H
                          clear H
                          try go_wp2
                          have n0_ : Aside0 (((w28.setCell ⟨gb159, 0, none⟩ (.int .u8 ((rd_T61 l2 x54_2).f0))).setCell ⟨gb159, 1, none⟩ (.int .u16 ((rd_T61 l2 x54_2).f1))).heap[gb154]? = some (.cells #[.int .i64 x155000_2, .int .i64 x155001_2, .int .i64 x155002_2, .bool x155003_2, .int .i64 x155004_2] 55 (0, 0))) := ⟨by (with_reducible repeat (first | refine blk_drewN ?_ _ | refine blk_drew ?_ | refine blk_alloc ?_ _)); refine blk_far ?_ NB154_159.out _; (with_reducible repeat (first | refine blk_drewN ?_ _ | refine blk_drew ?_ | refine blk_alloc ?_ _)); refine blk_far ?_ NB154_159.out _; (with_reducible repeat (first | refine blk_drewN ?_ _ | refine blk_drew ?_ | refine blk_alloc ?_ _)); exact BK154.out⟩
                          have n1_ : Aside0 (((w28.setCell ⟨gb159, 0, none⟩ (.int .u8 ((rd_T61 l2 x54_2).f0))).setCell ⟨gb159, 1, none⟩ (.int .u16 ((rd_T61 l2 x54_2).f1))).heap[gb156]? = some (.cells #[.int .i64 x157000_2, .int .i64 x157001_2, .int .i64 x157002_2, .bool x157003_2, .int .i64 x157004_2] 58 (0, 0))) := ⟨by (with_reducible repeat (first | refine blk_drewN ?_ _ | refine blk_drew ?_ | refine blk_alloc ?_ _)); refine blk_far ?_ NB156_159.out _; (with_reducible repeat (first | refine blk_drewN ?_ _ | refine blk_drew ?_ | refine blk_alloc ?_ _)); refine blk_far ?_ NB156_159.out _; (with_reducible repeat (first | refine blk_drewN ?_ _ | refine blk_drew ?_ | refine blk_alloc ?_ _)); exact BK156.out⟩
                          have n2_ : Aside0 (((w28.setCell ⟨gb159, 0, none⟩ (.int .u8 ((rd_T61 l2 x54_2).f0))).setCell ⟨gb159, 1, none⟩ (.int .u16 ((rd_T61 l2 x54_2).f1))).heap[gb159]? = some (.cells #[.int .u8 ((rd_T61 l2 x54_2).f0), .int .u16 ((rd_T61 l2 x54_2).f1)] 61 (0, 0))) := ⟨by (with_reducible repeat (first | refine blk_drewN ?_ _ | refine blk_drew ?_ | refine blk_alloc ?_ _)); refine blk_put (cs := #[.int .u8 ((rd_T61 l2 x54_2).f0), .int .u16 0]) ?_ 1 _ rfl; (with_reducible repeat (first | refine blk_drewN ?_ _ | refine blk_drew ?_ | refine blk_alloc ?_ _)); refine blk_put (cs := #[.int .u8 0, .int .u16 0]) ?_ 0 _ rfl; (with_reducible repeat (first | refine blk_drewN ?_ _ | refine blk_drew ?_ | refine blk_alloc ?_ _)); exact BK159.out⟩
                          have n3_ : Aside0 (Below w.heap.size w ((w28.setCell ⟨gb159, 0, none⟩ (.int .u8 ((rd_T61 l2 x54_2).f0))).setCell ⟨gb159, 1, none⟩ (.int .u16 ((rd_T61 l2 x54_2).f1)))) := ⟨by repeat (first | (with_reducible first | exact HB.out | apply below_alloc | apply pw_below_drewN | apply below_drew1 | refine below_set ?_ GE154.out | refine below_set ?_ GE156.out | refine below_set ?_ GE159.out) | exact HB.out)⟩
                          (try clear BK154)
                          (try clear BK156)
                          (try clear BK159)
                          (try clear HB)
                          generalize ((w28.setCell ⟨gb159, 0, none⟩ (.int .u8 ((rd_T61 l2 x54_2).f0))).setCell ⟨gb159, 1, none⟩ (.int .u16 ((rd_T61 l2 x54_2).f1))) = w47 at n0_ n1_ n2_ n3_ ⊢
                          have BK154 := n0_
                          have BK156 := n1_
                          have BK159 := n2_
                          have HB := n3_
                          clear n0_ n1_ n2_ n3_
                          have n0_ := Aside0.mk (blk_drew BK154.out)
                          have n1_ := Aside0.mk (blk_drew BK156.out)
                          have n2_ := Aside0.mk (blk_drew BK159.out)
                          have n3_ := Aside0.mk (below_drew1 HB.out)
                          clear BK154
                          clear BK156
                          clear BK159
                          clear HB
                          have BK154 := n0_
                          have BK156 := n1_
                          have BK159 := n2_
                          have HB := n3_
                          clear n0_ n1_ n2_ n3_
                          refine start_ (n := 8) (S := fun w' => w'.cell? ⟨gb154, 0, none⟩ = some (.int .i64 x155000_2) ∧ w'.cell? ⟨gb154, 1, none⟩ = some (.int .i64 x155001_2) ∧ w'.cell? ⟨gb154, 2, none⟩ = some (.int .i64 x155002_2) ∧ w'.cell? ⟨gb154, 3, none⟩ = some (.bool x155003_2) ∧ w'.cell? ⟨gb154, 4, none⟩ = some (.int .i64 x155004_2) ∧ w'.cell? ⟨gb156, 0, none⟩ = some (.int .i64 x157000_2) ∧ w'.cell? ⟨gb156, 1, none⟩ = some (.int .i64 x157001_2) ∧ w'.cell? ⟨gb156, 2, none⟩ = some (.int .i64 x157002_2) ∧ w'.cell? ⟨gb156, 3, none⟩ = some (.bool x157003_2) ∧ w'.cell? ⟨gb156, 4, none⟩ = some (.int .i64 x157004_2)) (ds := [6, 7]) #[false, false, false, false, false, false, false, false] (by kernel_rfl) rfl rfl ⟨(blk_cell BK154.out 0).trans rfl, (blk_cell BK154.out 1).trans rfl, (blk_cell BK154.out 2).trans rfl, (blk_cell BK154.out 3).trans rfl, (blk_cell BK154.out 4).trans rfl, (blk_cell BK156.out 0).trans rfl, (blk_cell BK156.out 1).trans rfl, (blk_cell BK156.out 2).trans rfl, (blk_cell BK156.out 3).trans rfl, (blk_cell BK156.out 4).trans rfl⟩ (fun hHeld => ?_); refine with_tabW carousellaw15_BurstPlays.tab18 carousellaw15_BurstPlays.bits18 (fun HT_ HW_ => ?_)
                          generalize w47.drew = w48 at BK154 BK156 BK159 HB hHeld ⊢
                          refine pure_ (i := 1) (N := some 82) (v := ?_) (a' := ?_) #[false, true, false, false, false, false, false, false] rfl rfl (any_of HT_.out (by kernel_rfl)) (fun _ _ _ h => h) (Or.inl ⟨by rfl, ?_⟩) ?_ ?_
                          rotate_left
                          · intro w'
                            go_simp
                            with_reducible rfl
                          rotate_left
                          · simp only [Act.put, List.setIfInBounds_toArray, List.set_cons_zero, List.set_cons_succ, i64_w, i32_w]
                            rfl
                          refine pure_ (i := 4) (N := some 85) (v := ?_) (a' := ?_) #[false, true, false, false, true, false, false, false] rfl rfl (any_of HT_.out (by kernel_rfl)) (fun _ _ _ h => h) (Or.inl ⟨by rfl, ?_⟩) ?_ ?_
                          rotate_left
                          · intro w'
                            go_simp
                            with_reducible rfl
                          rotate_left
                          · simp only [Act.put, List.setIfInBounds_toArray, List.set_cons_zero, List.set_cons_succ, i64_w, i32_w]
                            rfl
                          refine take_ (i := 0) (N := some 81) (v := ?_) (a' := ?_) #[true, true, false, false, true, false, false, false] rfl rfl (take_ofW HT_.out HW_.out (by kernel_rfl)) (fun _ _ _ h => h) (Or.inl ⟨by rfl, ?_⟩) hHeld ?_ ?_
                          rotate_left
                          · rintro w' ⟨s0, s1, s2, s3, s4, s5, s6, s7, s8, s9⟩
                            go_simp
                            with_reducible rfl
                          rotate_left
                          · simp only [Act.put, List.setIfInBounds_toArray, List.set_cons_zero, List.set_cons_succ, i64_w, i32_w]
                            rfl
                          refine take_ (i := 3) (N := some 84) (v := ?_) (a' := ?_) #[true, true, false, true, true, false, false, false] rfl rfl (take_ofW HT_.out HW_.out (by kernel_rfl)) (fun _ _ _ h => h) (Or.inl ⟨by rfl, ?_⟩) hHeld ?_ ?_
                          rotate_left
                          · rintro w' ⟨s0, s1, s2, s3, s4, s5, s6, s7, s8, s9⟩
                            go_simp
                            with_reducible rfl
                          rotate_left
                          · simp only [Act.put, List.setIfInBounds_toArray, List.set_cons_zero, List.set_cons_succ, i64_w, i32_w]
                            rfl
                          refine one_ (i := 2) (N := some 83) #[true, true, true, true, true, false, false, false] rfl rfl (one_of HT_.out (by kernel_rfl)) (by decide) (fun K hK => ?_)
                          refine goes_ Try.func29 (by kernel_rfl) rfl #[.agg #[.int .i64 x155000_2, .int .i64 x155001_2, .int .i64 x155002_2, .bool x155003_2, .int .i64 x155004_2], .int .i64 (wrap64 (x10_2 + (wrap64 ((rd_T61 l2 x54_2).f1))))] (by rfl) rfl rfl (by (try simp only [List.map_toArray, List.map_cons, List.map_nil]); first | done | rfl | (simp only [List.length_drop, List.length_take]; rfl)) ?_
                          with_reducible refine (burst_Burst_Begin.calls x155000_2 x155001_2 x155002_2 x155003_2 x155004_2 (wrap64 (x10_2 + (wrap64 ((rd_T61 l2 x54_2).f1)))) t172 t173 t174 t175 t176 _ A45.out).mono ?_
                          rintro e w49 ⟨rfl, hb⟩
                          refine ⟨_, rfl, ?_⟩
                          have n0_ := Aside0.mk (blk_below (g := gb154) (o := .cells #[.int .i64 x155000_2, .int .i64 x155001_2, .int .i64 x155002_2, .bool x155003_2, .int .i64 x155004_2] 55 (0, 0)) (by (with_reducible repeat (first | refine blk_drewN ?_ _ | refine blk_drew ?_ | refine blk_alloc ?_ _)); exact BK154.out) hb)
                          have n1_ := Aside0.mk (blk_below (g := gb156) (o := .cells #[.int .i64 x157000_2, .int .i64 x157001_2, .int .i64 x157002_2, .bool x157003_2, .int .i64 x157004_2] 58 (0, 0)) (by (with_reducible repeat (first | refine blk_drewN ?_ _ | refine blk_drew ?_ | refine blk_alloc ?_ _)); exact BK156.out) hb)
                          have n2_ := Aside0.mk (blk_below (g := gb159) (o := .cells #[.int .u8 ((rd_T61 l2 x54_2).f0), .int .u16 ((rd_T61 l2 x54_2).f1)] 61 (0, 0)) (by (with_reducible repeat (first | refine blk_drewN ?_ _ | refine blk_drew ?_ | refine blk_alloc ?_ _)); exact BK159.out) hb)
                          have n3_ := Aside0.mk (below_step (by repeat (first | (with_reducible first | exact HB.out | apply below_alloc | apply pw_below_drewN | apply below_drew1 | refine below_set ?_ GE154.out | refine below_set ?_ GE156.out | refine below_set ?_ GE159.out) | exact HB.out)) hb)
                          clear BK154
                          clear BK156
                          clear BK159
                          clear HB
                          have BK154 := n0_
                          have BK156 := n1_
                          have BK159 := n2_
                          have HB := n3_
                          clear n0_ n1_ n2_ n3_
                          (try clear hb)
                          (try clear hb2)
                          (try clear hk)
                          (try clear hi)
                          refine hK.out _ _ ⟨(blk_cell BK154.out 0).trans rfl, (blk_cell BK154.out 1).trans rfl, (blk_cell BK154.out 2).trans rfl, (blk_cell BK154.out 3).trans rfl, (blk_cell BK154.out 4).trans rfl, (blk_cell BK156.out 0).trans rfl, (blk_cell BK156.out 1).trans rfl, (blk_cell BK156.out 2).trans rfl, (blk_cell BK156.out 3).trans rfl, (blk_cell BK156.out 4).trans rfl⟩ (fun hHeld => ?_)
                          clear hK K
                          refine norm_ (a' := ?_) ?_ ?_
                          rotate_left
                          · show Act.put _ (some 83) _ = _
                            simp only [Act.put, List.setIfInBounds_toArray, List.set_cons_zero, List.set_cons_succ, i64_w, i32_w]
                            rfl
                          refine one_ (i := 5) (N := some 86) #[true, true, true, true, true, true, false, false] rfl rfl (one_of HT_.out (by kernel_rfl)) (by decide) (fun K hK => ?_)
                          refine goes_ Try.func30 (by kernel_rfl) rfl #[.agg #[.int .i64 x157000_2, .int .i64 x157001_2, .int .i64 x157002_2, .bool x157003_2, .int .i64 x157004_2], .int .i64 (wrap64 (x10_2 + (wrap64 ((rd_T61 l2 x54_2).f1))))] (by rfl) rfl rfl (by (try simp only [List.map_toArray, List.map_cons, List.map_nil]); first | done | rfl | (simp only [List.length_drop, List.length_take]; rfl)) ?_
                          with_reducible refine (carouselref15_Begin.calls x157000_2 x157001_2 x157002_2 x157003_2 x157004_2 (wrap64 (x10_2 + (wrap64 ((rd_T61 l2 x54_2).f1)))) t177 t178 t179 t180 t181 _ A46.out).mono ?_
                          rintro e w50 ⟨rfl, hb⟩
                          refine ⟨_, rfl, ?_⟩
                          have n0_ := Aside0.mk (blk_below (g := gb154) (o := .cells #[.int .i64 x155000_2, .int .i64 x155001_2, .int .i64 x155002_2, .bool x155003_2, .int .i64 x155004_2] 55 (0, 0)) (by (with_reducible repeat (first | refine blk_drewN ?_ _ | refine blk_drew ?_ | refine blk_alloc ?_ _)); exact BK154.out) hb)
                          have n1_ := Aside0.mk (blk_below (g := gb156) (o := .cells #[.int .i64 x157000_2, .int .i64 x157001_2, .int .i64 x157002_2, .bool x157003_2, .int .i64 x157004_2] 58 (0, 0)) (by (with_reducible repeat (first | refine blk_drewN ?_ _ | refine blk_drew ?_ | refine blk_alloc ?_ _)); exact BK156.out) hb)
                          have n2_ := Aside0.mk (blk_below (g := gb159) (o := .cells #[.int .u8 ((rd_T61 l2 x54_2).f0), .int .u16 ((rd_T61 l2 x54_2).f1)] 61 (0, 0)) (by (with_reducible repeat (first | refine blk_drewN ?_ _ | refine blk_drew ?_ | refine blk_alloc ?_ _)); exact BK159.out) hb)
                          have n3_ := Aside0.mk (below_step (by repeat (first | (with_reducible first | exact HB.out | apply below_alloc | apply pw_below_drewN | apply below_drew1 | refine below_set ?_ GE154.out | refine below_set ?_ GE156.out | refine below_set ?_ GE159.out) | exact HB.out)) hb)
                          clear BK154
                          clear BK156
                          clear BK159
                          clear HB
                          have BK154 := n0_
                          have BK156 := n1_
                          have BK159 := n2_
                          have HB := n3_
                          clear n0_ n1_ n2_ n3_
                          (try clear hb)
                          (try clear hb2)
                          (try clear hk)
                          (try clear hi)
                          refine hK.out _ _ ⟨(blk_cell BK154.out 0).trans rfl, (blk_cell BK154.out 1).trans rfl, (blk_cell BK154.out 2).trans rfl, (blk_cell BK154.out 3).trans rfl, (blk_cell BK154.out 4).trans rfl, (blk_cell BK156.out 0).trans rfl, (blk_cell BK156.out 1).trans rfl, (blk_cell BK156.out 2).trans rfl, (blk_cell BK156.out 3).trans rfl, (blk_cell BK156.out 4).trans rfl⟩ (fun hHeld => ?_)
                          clear hK K
                          refine norm_ (a' := ?_) ?_ ?_
                          rotate_left
                          · show Act.put _ (some 86) _ = _
                            simp only [Act.put, List.setIfInBounds_toArray, List.set_cons_zero, List.set_cons_succ, i64_w, i32_w]
                            rfl
                          refine last_ (i := 6) (N := none) #[true, true, true, true, true, true, true, false] rfl rfl (one_of HT_.out (by kernel_rfl)) (by decide) (fun K hK => ?_)
                          have hs51 : w50.cell? ⟨gb154, 0, none⟩ = some (.int .i64 x155000_2) := (blk_cell BK154.out 0).trans rfl
                          have hfs51 := blk_frozen BK154.out 0
                          have hns51_1 := NB156_154.out
                          have hns51_2 := NB159_154.out
                          have hms51_1 := NB154_156.out
                          have hms51_2 := NB154_159.out
                          have hs52 : w50.cell? ⟨gb154, 1, none⟩ = some (.int .i64 x155001_2) := (blk_cell BK154.out 1).trans rfl
                          have hfs52 := blk_frozen BK154.out 1
                          have hns52_1 := NB156_154.out
                          have hns52_2 := NB159_154.out
                          have hms52_1 := NB154_156.out
                          have hms52_2 := NB154_159.out
                          have hs53 : w50.cell? ⟨gb154, 2, none⟩ = some (.int .i64 x155002_2) := (blk_cell BK154.out 2).trans rfl
                          have hfs53 := blk_frozen BK154.out 2
                          have hns53_1 := NB156_154.out
                          have hns53_2 := NB159_154.out
                          have hms53_1 := NB154_156.out
                          have hms53_2 := NB154_159.out
                          have hs54 : w50.cell? ⟨gb154, 3, none⟩ = some (.bool x155003_2) := (blk_cell BK154.out 3).trans rfl
                          have hfs54 := blk_frozen BK154.out 3
                          have hns54_1 := NB156_154.out
                          have hns54_2 := NB159_154.out
                          have hms54_1 := NB154_156.out
                          have hms54_2 := NB154_159.out
                          have hs55 : w50.cell? ⟨gb154, 4, none⟩ = some (.int .i64 x155004_2) := (blk_cell BK154.out 4).trans rfl
                          have hfs55 := blk_frozen BK154.out 4
                          have hns55_1 := NB156_154.out
                          have hns55_2 := NB159_154.out
                          have hms55_1 := NB154_156.out
                          have hms55_2 := NB154_159.out
                          refine skip_ (w1 := ?_) (by rfl) rfl ?_ ?_
                          rotate_left
                          · go_simp
                            rfl
                          refine hK.out _ _ ?_
                          clear hK K
                          refine last_ (i := 7) (N := none) #[true, true, true, true, true, true, true, true] rfl rfl (one_of HT_.out (by kernel_rfl)) (by decide) (fun K hK => ?_)
                          have hs56 : w50.cell? ⟨gb156, 0, none⟩ = some (.int .i64 x157000_2) := (blk_cell BK156.out 0).trans rfl
                          have hfs56 := blk_frozen BK156.out 0
                          have hns56_0 := NB154_156.out
                          have hns56_2 := NB159_156.out
                          have hms56_0 := NB156_154.out
                          have hms56_2 := NB156_159.out
                          have hs57 : w50.cell? ⟨gb156, 1, none⟩ = some (.int .i64 x157001_2) := (blk_cell BK156.out 1).trans rfl
                          have hfs57 := blk_frozen BK156.out 1
                          have hns57_0 := NB154_156.out
                          have hns57_2 := NB159_156.out
                          have hms57_0 := NB156_154.out
                          have hms57_2 := NB156_159.out
                          have hs58 : w50.cell? ⟨gb156, 2, none⟩ = some (.int .i64 x157002_2) := (blk_cell BK156.out 2).trans rfl
                          have hfs58 := blk_frozen BK156.out 2
                          have hns58_0 := NB154_156.out
                          have hns58_2 := NB159_156.out
                          have hms58_0 := NB156_154.out
                          have hms58_2 := NB156_159.out
                          have hs59 : w50.cell? ⟨gb156, 3, none⟩ = some (.bool x157003_2) := (blk_cell BK156.out 3).trans rfl
                          have hfs59 := blk_frozen BK156.out 3
                          have hns59_0 := NB154_156.out
                          have hns59_2 := NB159_156.out
                          have hms59_0 := NB156_154.out
                          have hms59_2 := NB156_159.out
                          have hs60 : w50.cell? ⟨gb156, 4, none⟩ = some (.int .i64 x157004_2) := (blk_cell BK156.out 4).trans rfl
                          have hfs60 := blk_frozen BK156.out 4
                          have hns60_0 := NB154_156.out
                          have hns60_2 := NB159_156.out
                          have hms60_0 := NB156_154.out
                          have hms60_2 := NB156_159.out
                          refine skip_ (w1 := ?_) (by rfl) rfl ?_ ?_
                          rotate_left
                          · go_simp
                            rfl
                          refine hK.out _ _ ?_
                          clear hK K
                          refine done_ (done_of HT_.out (by kernel_rfl)) ?_
                          try go_wp2
                          go_meet
                          case rel => exact ⟨_, (false), (false), (t172), (t173), (t174), (t175), (t176), (t177), (t178), (t179), (t180), (t181), (by first | rfl | (simp; done) | (simp [*]; done)), (by first | rfl | (simp; done) | (simp [*]; done)), H', ⟨by have := HJ7.out; have := HK2.out; first | omega | exact Nat.le_refl _⟩, ⟨by (with_reducible repeat (first | refine blk_drewN ?_ _ | refine blk_drew ?_ | refine blk_alloc ?_ _)); refine blk_far ?_ NB154_156.out _; (with_reducible repeat (first | refine blk_drewN ?_ _ | refine blk_drew ?_ | refine blk_alloc ?_ _)); refine blk_far ?_ NB154_156.out _; (with_reducible repeat (first | refine blk_drewN ?_ _ | refine blk_drew ?_ | refine blk_alloc ?_ _)); refine blk_far ?_ NB154_156.out _; (with_reducible repeat (first | refine blk_drewN ?_ _ | refine blk_drew ?_ | refine blk_alloc ?_ _)); refine blk_far ?_ NB154_156.out _; (with_reducible repeat (first | refine blk_drewN ?_ _ | refine blk_drew ?_ | refine blk_alloc ?_ _)); refine blk_far ?_ NB154_156.out _; (with_reducible repeat (first | refine blk_drewN ?_ _ | refine blk_drew ?_ | refine blk_alloc ?_ _)); refine blk_put (cs := #[.int .i64 t172, .int .i64 t173, .int .i64 t174, .bool t175, .int .i64 x155004_2]) ?_ 4 _ rfl; (with_reducible repeat (first | refine blk_drewN ?_ _ | refine blk_drew ?_ | refine blk_alloc ?_ _)); refine blk_put (cs := #[.int .i64 t172, .int .i64 t173, .int .i64 t174, .bool x155003_2, .int .i64 x155004_2]) ?_ 3 _ rfl; (with_reducible repeat (first | refine blk_drewN ?_ _ | refine blk_drew ?_ | refine blk_alloc ?_ _)); refine blk_put (cs := #[.int .i64 t172, .int .i64 t173, .int .i64 x155002_2, .bool x155003_2, .int .i64 x155004_2]) ?_ 2 _ rfl; (with_reducible repeat (first | refine blk_drewN ?_ _ | refine blk_drew ?_ | refine blk_alloc ?_ _)); refine blk_put (cs := #[.int .i64 t172, .int .i64 x155001_2, .int .i64 x155002_2, .bool x155003_2, .int .i64 x155004_2]) ?_ 1 _ rfl; (with_reducible repeat (first | refine blk_drewN ?_ _ | refine blk_drew ?_ | refine blk_alloc ?_ _)); refine blk_put (cs := #[.int .i64 x155000_2, .int .i64 x155001_2, .int .i64 x155002_2, .bool x155003_2, .int .i64 x155004_2]) ?_ 0 _ rfl; (with_reducible repeat (first | refine blk_drewN ?_ _ | refine blk_drew ?_ | refine blk_alloc ?_ _)); exact BK154.out⟩, ⟨by (with_reducible repeat (first | refine blk_drewN ?_ _ | refine blk_drew ?_ | refine blk_alloc ?_ _)); refine blk_put (cs := #[.int .i64 t177, .int .i64 t178, .int .i64 t179, .bool t180, .int .i64 x157004_2]) ?_ 4 _ rfl; (with_reducible repeat (first | refine blk_drewN ?_ _ | refine blk_drew ?_ | refine blk_alloc ?_ _)); refine blk_put (cs := #[.int .i64 t177, .int .i64 t178, .int .i64 t179, .bool x157003_2, .int .i64 x157004_2]) ?_ 3 _ rfl; (with_reducible repeat (first | refine blk_drewN ?_ _ | refine blk_drew ?_ | refine blk_alloc ?_ _)); refine blk_put (cs := #[.int .i64 t177, .int .i64 t178, .int .i64 x157002_2, .bool x157003_2, .int .i64 x157004_2]) ?_ 2 _ rfl; (with_reducible repeat (first | refine blk_drewN ?_ _ | refine blk_drew ?_ | refine blk_alloc ?_ _)); refine blk_put (cs := #[.int .i64 t177, .int .i64 x157001_2, .int .i64 x157002_2, .bool x157003_2, .int .i64 x157004_2]) ?_ 1 _ rfl; (with_reducible repeat (first | refine blk_drewN ?_ _ | refine blk_drew ?_ | refine blk_alloc ?_ _)); refine blk_put (cs := #[.int .i64 x157000_2, .int .i64 x157001_2, .int .i64 x157002_2, .bool x157003_2, .int .i64 x157004_2]) ?_ 0 _ rfl; (with_reducible repeat (first | refine blk_drewN ?_ _ | refine blk_drew ?_ | refine blk_alloc ?_ _)); refine blk_far ?_ NB156_154.out _; (with_reducible repeat (first | refine blk_drewN ?_ _ | refine blk_drew ?_ | refine blk_alloc ?_ _)); refine blk_far ?_ NB156_154.out _; (with_reducible repeat (first | refine blk_drewN ?_ _ | refine blk_drew ?_ | refine blk_alloc ?_ _)); refine blk_far ?_ NB156_154.out _; (with_reducible repeat (first | refine blk_drewN ?_ _ | refine blk_drew ?_ | refine blk_alloc ?_ _)); refine blk_far ?_ NB156_154.out _; (with_reducible repeat (first | refine blk_drewN ?_ _ | refine blk_drew ?_ | refine blk_alloc ?_ _)); refine blk_far ?_ NB156_154.out _; (with_reducible repeat (first | refine blk_drewN ?_ _ | refine blk_drew ?_ | refine blk_alloc ?_ _)); exact BK156.out⟩, ⟨by (with_reducible repeat (first | refine blk_drewN ?_ _ | refine blk_drew ?_ | refine blk_alloc ?_ _)); refine blk_far ?_ NB159_156.out _; (with_reducible repeat (first | refine blk_drewN ?_ _ | refine blk_drew ?_ | refine blk_alloc ?_ _)); refine blk_far ?_ NB159_156.out _; (with_reducible repeat (first | refine blk_drewN ?_ _ | refine blk_drew ?_ | refine blk_alloc ?_ _)); refine blk_far ?_ NB159_156.out _; (with_reducible repeat (first | refine blk_drewN ?_ _ | refine blk_drew ?_ | refine blk_alloc ?_ _)); refine blk_far ?_ NB159_156.out _; (with_reducible repeat (first | refine blk_drewN ?_ _ | refine blk_drew ?_ | refine blk_alloc ?_ _)); refine blk_far ?_ NB159_156.out _; (with_reducible repeat (first | refine blk_drewN ?_ _ | refine blk_drew ?_ | refine blk_alloc ?_ _)); refine blk_far ?_ NB159_154.out _; (with_reducible repeat (first | refine blk_drewN ?_ _ | refine blk_drew ?_ | refine blk_alloc ?_ _)); refine blk_far ?_ NB159_154.out _; (with_reducible repeat (first | refine blk_drewN ?_ _ | refine blk_drew ?_ | refine blk_alloc ?_ _)); refine blk_far ?_ NB159_154.out _; (with_reducible repeat (first | refine blk_drewN ?_ _ | refine blk_drew ?_ | refine blk_alloc ?_ _)); refine blk_far ?_ NB159_154.out _; (with_reducible repeat (first | refine blk_drewN ?_ _ | refine blk_drew ?_ | refine blk_alloc ?_ _)); refine blk_far ?_ NB159_154.out _; (with_reducible repeat (first | refine blk_drewN ?_ _ | refine blk_drew ?_ | refine blk_alloc ?_ _)); exact BK159.out⟩, ⟨by repeat (first | (with_reducible first | exact HB.out | apply below_alloc | apply pw_below_drewN | apply below_drew1 | refine below_set ?_ GE154.out | refine below_set ?_ GE156.out | refine below_set ?_ GE159.out) | exact HB.out)⟩⟩
                        · rw [if_neg c44] at H
                          have c44b0 : (((rd_T61 l2 x54_2).f0) == 1) = false := beq_eq_false_iff_ne.mpr c44
                          have c44b1 : (((rd_T61 l2 x54_2).f0) != 1) = true := bne_iff_ne.mpr c44
                          by_cases c61 : ((rd_T61 l2 x54_2).f0) = 2
                          · rw [if_pos c61] at H
                            have c61b0 : (((rd_T61 l2 x54_2).f0) == 2) = true := beq_iff_eq.mpr c61
                            have c61b1 : (((rd_T61 l2 x54_2).f0) != 2) = false := bne_eq_false_iff_eq.mpr c61
                            clear c61
                            replace H := Option.bind_eq_some_iff.mp H
                            obtain ⟨⟨t182, t183, t184, t185, t186⟩, A620, H⟩ := H
                            replace H : ((carouselref15_End.f x157000_2 x157001_2 x157002_2 x157003_2 x157004_2).bind fun bt187 => (carousellaw15_BurstPlays.j2 k2 t153 (wrap64 (x10_2 + (wrap64 ((rd_T61 l2 x54_2).f1)))) false false l2 (l2.length : Int) x54_2 t182 t183 t184 t185 t186 bt187.1 bt187.2.1 bt187.2.2.1 bt187.2.2.2.1 bt187.2.2.2.2)) = some r := H
                            have A62 := Aside0.mk A620
                            clear A620
                            replace H := Option.bind_eq_some_iff.mp H
                            obtain ⟨⟨t187, t188, t189, t190, t191⟩, A630, H⟩ := H
                            replace H : (carousellaw15_BurstPlays.j2 k2 t153 (wrap64 (x10_2 + (wrap64 ((rd_T61 l2 x54_2).f1)))) false false l2 (l2.length : Int) x54_2 t182 t183 t184 t185 t186 t187 t188 t189 t190 t191) = some r := H
                            have A63 := Aside0.mk A630
                            clear A630
                            have H' := Aside0.mk H
                            clear H
                            try go_wp2
                            have n0_ : Aside0 (((w28.setCell ⟨gb159, 0, none⟩ (.int .u8 ((rd_T61 l2 x54_2).f0))).setCell ⟨gb159, 1, none⟩ (.int .u16 ((rd_T61 l2 x54_2).f1))).heap[gb154]? = some (.cells #[.int .i64 x155000_2, .int .i64 x155001_2, .int .i64 x155002_2, .bool x155003_2, .int .i64 x155004_2] 55 (0, 0))) := ⟨by (with_reducible repeat (first | refine blk_drewN ?_ _ | refine blk_drew ?_ | refine blk_alloc ?_ _)); refine blk_far ?_ NB154_159.out _; (with_reducible repeat (first | refine blk_drewN ?_ _ | refine blk_drew ?_ | refine blk_alloc ?_ _)); refine blk_far ?_ NB154_159.out _; (with_reducible repeat (first | refine blk_drewN ?_ _ | refine blk_drew ?_ | refine blk_alloc ?_ _)); exact BK154.out⟩
                            have n1_ : Aside0 (((w28.setCell ⟨gb159, 0, none⟩ (.int .u8 ((rd_T61 l2 x54_2).f0))).setCell ⟨gb159, 1, none⟩ (.int .u16 ((rd_T61 l2 x54_2).f1))).heap[gb156]? = some (.cells #[.int .i64 x157000_2, .int .i64 x157001_2, .int .i64 x157002_2, .bool x157003_2, .int .i64 x157004_2] 58 (0, 0))) := ⟨by (with_reducible repeat (first | refine blk_drewN ?_ _ | refine blk_drew ?_ | refine blk_alloc ?_ _)); refine blk_far ?_ NB156_159.out _; (with_reducible repeat (first | refine blk_drewN ?_ _ | refine blk_drew ?_ | refine blk_alloc ?_ _)); refine blk_far ?_ NB156_159.out _; (with_reducible repeat (first | refine blk_drewN ?_ _ | refine blk_drew ?_ | refine blk_alloc ?_ _)); exact BK156.out⟩
                            have n2_ : Aside0 (((w28.setCell ⟨gb159, 0, none⟩ (.int .u8 ((rd_T61 l2 x54_2).f0))).setCell ⟨gb159, 1, none⟩ (.int .u16 ((rd_T61 l2 x54_2).f1))).heap[gb159]? = some (.cells #[.int .u8 ((rd_T61 l2 x54_2).f0), .int .u16 ((rd_T61 l2 x54_2).f1)] 61 (0, 0))) := ⟨by (with_reducible repeat (first | refine blk_drewN ?_ _ | refine blk_drew ?_ | refine blk_alloc ?_ _)); refine blk_put (cs := #[.int .u8 ((rd_T61 l2 x54_2).f0), .int .u16 0]) ?_ 1 _ rfl; (with_reducible repeat (first | refine blk_drewN ?_ _ | refine blk_drew ?_ | refine blk_alloc ?_ _)); refine blk_put (cs := #[.int .u8 0, .int .u16 0]) ?_ 0 _ rfl; (with_reducible repeat (first | refine blk_drewN ?_ _ | refine blk_drew ?_ | refine blk_alloc ?_ _)); exact BK159.out⟩
                            have n3_ : Aside0 (Below w.heap.size w ((w28.setCell ⟨gb159, 0, none⟩ (.int .u8 ((rd_T61 l2 x54_2).f0))).setCell ⟨gb159, 1, none⟩ (.int .u16 ((rd_T61 l2 x54_2).f1)))) := ⟨by repeat (first | (with_reducible first | exact HB.out | apply below_alloc | apply pw_below_drewN | apply below_drew1 | refine below_set ?_ GE154.out | refine below_set ?_ GE156.out | refine below_set ?_ GE159.out) | exact HB.out)⟩
                            (try clear BK154)
                            (try clear BK156)
                            (try clear BK159)
                            (try clear HB)
                            generalize ((w28.setCell ⟨gb159, 0, none⟩ (.int .u8 ((rd_T61 l2 x54_2).f0))).setCell ⟨gb159, 1, none⟩ (.int .u16 ((rd_T61 l2 x54_2).f1))) = w64 at n0_ n1_ n2_ n3_ ⊢
                            have BK154 := n0_
                            have BK156 := n1_
                            have BK159 := n2_
                            have HB := n3_
                            clear n0_ n1_ n2_ n3_
                            have n0_ := Aside0.mk (blk_drew BK154.out)
                            have n1_ := Aside0.mk (blk_drew BK156.out)
                            have n2_ := Aside0.mk (blk_drew BK159.out)
                            have n3_ := Aside0.mk (below_drew1 HB.out)
                            clear BK154
                            clear BK156
                            clear BK159
                            clear HB
                            have BK154 := n0_
                            have BK156 := n1_
                            have BK159 := n2_
                            have HB := n3_
                            clear n0_ n1_ n2_ n3_
                            refine start_ (n := 6) (S := fun w' => w'.cell? ⟨gb154, 0, none⟩ = some (.int .i64 x155000_2) ∧ w'.cell? ⟨gb154, 1, none⟩ = some (.int .i64 x155001_2) ∧ w'.cell? ⟨gb154, 2, none⟩ = some (.int .i64 x155002_2) ∧ w'.cell? ⟨gb154, 3, none⟩ = some (.bool x155003_2) ∧ w'.cell? ⟨gb154, 4, none⟩ = some (.int .i64 x155004_2) ∧ w'.cell? ⟨gb156, 0, none⟩ = some (.int .i64 x157000_2) ∧ w'.cell? ⟨gb156, 1, none⟩ = some (.int .i64 x157001_2) ∧ w'.cell? ⟨gb156, 2, none⟩ = some (.int .i64 x157002_2) ∧ w'.cell? ⟨gb156, 3, none⟩ = some (.bool x157003_2) ∧ w'.cell? ⟨gb156, 4, none⟩ = some (.int .i64 x157004_2)) (ds := [4, 5]) #[false, false, false, false, false, false] (by kernel_rfl) rfl rfl ⟨(blk_cell BK154.out 0).trans rfl, (blk_cell BK154.out 1).trans rfl, (blk_cell BK154.out 2).trans rfl, (blk_cell BK154.out 3).trans rfl, (blk_cell BK154.out 4).trans rfl, (blk_cell BK156.out 0).trans rfl, (blk_cell BK156.out 1).trans rfl, (blk_cell BK156.out 2).trans rfl, (blk_cell BK156.out 3).trans rfl, (blk_cell BK156.out 4).trans rfl⟩ (fun hHeld => ?_)
                            generalize w64.drew = w65 at BK154 BK156 BK159 HB hHeld ⊢
                            refine take_ (i := 0) (N := some 89) (v := ?_) (a' := ?_) #[true, false, false, false, false, false] rfl rfl (by kernel_rfl) (fun _ _ _ h => h) (Or.inl ⟨by rfl, ?_⟩) hHeld ?_ ?_
                            rotate_left
                            · rintro w' ⟨s0, s1, s2, s3, s4, s5, s6, s7, s8, s9⟩
                              go_simp
                              with_reducible rfl
                            rotate_left
                            · simp only [Act.put, List.setIfInBounds_toArray, List.set_cons_zero, List.set_cons_succ, i64_w, i32_w]
                              rfl
                            refine take_ (i := 2) (N := some 91) (v := ?_) (a' := ?_) #[true, false, true, false, false, false] rfl rfl (by kernel_rfl) (fun _ _ _ h => h) (Or.inl ⟨by rfl, ?_⟩) hHeld ?_ ?_
                            rotate_left
                            · rintro w' ⟨s0, s1, s2, s3, s4, s5, s6, s7, s8, s9⟩
                              go_simp
                              with_reducible rfl
                            rotate_left
                            · simp only [Act.put, List.setIfInBounds_toArray, List.set_cons_zero, List.set_cons_succ, i64_w, i32_w]
                              rfl
                            refine one_ (i := 1) (N := some 90) #[true, true, true, false, false, false] rfl rfl (by kernel_rfl) (by decide) (fun K hK => ?_)
                            refine goes_ Try.func31 (by kernel_rfl) rfl #[.agg #[.int .i64 x155000_2, .int .i64 x155001_2, .int .i64 x155002_2, .bool x155003_2, .int .i64 x155004_2]] (by rfl) rfl rfl (by (try simp only [List.map_toArray, List.map_cons, List.map_nil]); first | done | rfl | (simp only [List.length_drop, List.length_take]; rfl)) ?_
                            with_reducible refine (burst_Burst_End.calls x155000_2 x155001_2 x155002_2 x155003_2 x155004_2 t182 t183 t184 t185 t186 _ A62.out).mono ?_
                            rintro e w66 ⟨rfl, hb⟩
                            refine ⟨_, rfl, ?_⟩
                            have n0_ := Aside0.mk (blk_below (g := gb154) (o := .cells #[.int .i64 x155000_2, .int .i64 x155001_2, .int .i64 x155002_2, .bool x155003_2, .int .i64 x155004_2] 55 (0, 0)) (by (with_reducible repeat (first | refine blk_drewN ?_ _ | refine blk_drew ?_ | refine blk_alloc ?_ _)); exact BK154.out) hb)
                            have n1_ := Aside0.mk (blk_below (g := gb156) (o := .cells #[.int .i64 x157000_2, .int .i64 x157001_2, .int .i64 x157002_2, .bool x157003_2, .int .i64 x157004_2] 58 (0, 0)) (by (with_reducible repeat (first | refine blk_drewN ?_ _ | refine blk_drew ?_ | refine blk_alloc ?_ _)); exact BK156.out) hb)
                            have n2_ := Aside0.mk (blk_below (g := gb159) (o := .cells #[.int .u8 ((rd_T61 l2 x54_2).f0), .int .u16 ((rd_T61 l2 x54_2).f1)] 61 (0, 0)) (by (with_reducible repeat (first | refine blk_drewN ?_ _ | refine blk_drew ?_ | refine blk_alloc ?_ _)); exact BK159.out) hb)
                            have n3_ := Aside0.mk (below_step (by repeat (first | (with_reducible first | exact HB.out | apply below_alloc | apply pw_below_drewN | apply below_drew1 | refine below_set ?_ GE154.out | refine below_set ?_ GE156.out | refine below_set ?_ GE159.out) | exact HB.out)) hb)
                            clear BK154
                            clear BK156
                            clear BK159
                            clear HB
                            have BK154 := n0_
                            have BK156 := n1_
                            have BK159 := n2_
                            have HB := n3_
                            clear n0_ n1_ n2_ n3_
                            (try clear hb)
                            (try clear hb2)
                            (try clear hk)
                            (try clear hi)
                            refine hK.out _ _ ⟨(blk_cell BK154.out 0).trans rfl, (blk_cell BK154.out 1).trans rfl, (blk_cell BK154.out 2).trans rfl, (blk_cell BK154.out 3).trans rfl, (blk_cell BK154.out 4).trans rfl, (blk_cell BK156.out 0).trans rfl, (blk_cell BK156.out 1).trans rfl, (blk_cell BK156.out 2).trans rfl, (blk_cell BK156.out 3).trans rfl, (blk_cell BK156.out 4).trans rfl⟩ (fun hHeld => ?_)
                            clear hK K
                            refine norm_ (a' := ?_) ?_ ?_
                            rotate_left
                            · show Act.put _ (some 90) _ = _
                              simp only [Act.put, List.setIfInBounds_toArray, List.set_cons_zero, List.set_cons_succ, i64_w, i32_w]
                              rfl
                            refine one_ (i := 3) (N := some 92) #[true, true, true, true, false, false] rfl rfl (by kernel_rfl) (by decide) (fun K hK => ?_)
                            refine goes_ Try.func32 (by kernel_rfl) rfl #[.agg #[.int .i64 x157000_2, .int .i64 x157001_2, .int .i64 x157002_2, .bool x157003_2, .int .i64 x157004_2]] (by rfl) rfl rfl (by (try simp only [List.map_toArray, List.map_cons, List.map_nil]); first | done | rfl | (simp only [List.length_drop, List.length_take]; rfl)) ?_
                            with_reducible refine (carouselref15_End.calls x157000_2 x157001_2 x157002_2 x157003_2 x157004_2 t187 t188 t189 t190 t191 _ A63.out).mono ?_
                            rintro e w67 ⟨rfl, hb⟩
                            refine ⟨_, rfl, ?_⟩
                            have n0_ := Aside0.mk (blk_below (g := gb154) (o := .cells #[.int .i64 x155000_2, .int .i64 x155001_2, .int .i64 x155002_2, .bool x155003_2, .int .i64 x155004_2] 55 (0, 0)) (by (with_reducible repeat (first | refine blk_drewN ?_ _ | refine blk_drew ?_ | refine blk_alloc ?_ _)); exact BK154.out) hb)
                            have n1_ := Aside0.mk (blk_below (g := gb156) (o := .cells #[.int .i64 x157000_2, .int .i64 x157001_2, .int .i64 x157002_2, .bool x157003_2, .int .i64 x157004_2] 58 (0, 0)) (by (with_reducible repeat (first | refine blk_drewN ?_ _ | refine blk_drew ?_ | refine blk_alloc ?_ _)); exact BK156.out) hb)
                            have n2_ := Aside0.mk (blk_below (g := gb159) (o := .cells #[.int .u8 ((rd_T61 l2 x54_2).f0), .int .u16 ((rd_T61 l2 x54_2).f1)] 61 (0, 0)) (by (with_reducible repeat (first | refine blk_drewN ?_ _ | refine blk_drew ?_ | refine blk_alloc ?_ _)); exact BK159.out) hb)
                            have n3_ := Aside0.mk (below_step (by repeat (first | (with_reducible first | exact HB.out | apply below_alloc | apply pw_below_drewN | apply below_drew1 | refine below_set ?_ GE154.out | refine below_set ?_ GE156.out | refine below_set ?_ GE159.out) | exact HB.out)) hb)
                            clear BK154
                            clear BK156
                            clear BK159
                            clear HB
                            have BK154 := n0_
                            have BK156 := n1_
                            have BK159 := n2_
                            have HB := n3_
                            clear n0_ n1_ n2_ n3_
                            (try clear hb)
                            (try clear hb2)
                            (try clear hk)
                            (try clear hi)
                            refine hK.out _ _ ⟨(blk_cell BK154.out 0).trans rfl, (blk_cell BK154.out 1).trans rfl, (blk_cell BK154.out 2).trans rfl, (blk_cell BK154.out 3).trans rfl, (blk_cell BK154.out 4).trans rfl, (blk_cell BK156.out 0).trans rfl, (blk_cell BK156.out 1).trans rfl, (blk_cell BK156.out 2).trans rfl, (blk_cell BK156.out 3).trans rfl, (blk_cell BK156.out 4).trans rfl⟩ (fun hHeld => ?_)
                            clear hK K
                            refine norm_ (a' := ?_) ?_ ?_
                            rotate_left
                            · show Act.put _ (some 92) _ = _
                              simp only [Act.put, List.setIfInBounds_toArray, List.set_cons_zero, List.set_cons_succ, i64_w, i32_w]
                              rfl
                            refine last_ (i := 4) (N := none) #[true, true, true, true, true, false] rfl rfl (by kernel_rfl) (by decide) (fun K hK => ?_)
                            have hs68 : w67.cell? ⟨gb154, 0, none⟩ = some (.int .i64 x155000_2) := (blk_cell BK154.out 0).trans rfl
                            have hfs68 := blk_frozen BK154.out 0
                            have hns68_1 := NB156_154.out
                            have hns68_2 := NB159_154.out
                            have hms68_1 := NB154_156.out
                            have hms68_2 := NB154_159.out
                            have hs69 : w67.cell? ⟨gb154, 1, none⟩ = some (.int .i64 x155001_2) := (blk_cell BK154.out 1).trans rfl
                            have hfs69 := blk_frozen BK154.out 1
                            have hns69_1 := NB156_154.out
                            have hns69_2 := NB159_154.out
                            have hms69_1 := NB154_156.out
                            have hms69_2 := NB154_159.out
                            have hs70 : w67.cell? ⟨gb154, 2, none⟩ = some (.int .i64 x155002_2) := (blk_cell BK154.out 2).trans rfl
                            have hfs70 := blk_frozen BK154.out 2
                            have hns70_1 := NB156_154.out
                            have hns70_2 := NB159_154.out
                            have hms70_1 := NB154_156.out
                            have hms70_2 := NB154_159.out
                            have hs71 : w67.cell? ⟨gb154, 3, none⟩ = some (.bool x155003_2) := (blk_cell BK154.out 3).trans rfl
                            have hfs71 := blk_frozen BK154.out 3
                            have hns71_1 := NB156_154.out
                            have hns71_2 := NB159_154.out
                            have hms71_1 := NB154_156.out
                            have hms71_2 := NB154_159.out
                            have hs72 : w67.cell? ⟨gb154, 4, none⟩ = some (.int .i64 x155004_2) := (blk_cell BK154.out 4).trans rfl
                            have hfs72 := blk_frozen BK154.out 4
                            have hns72_1 := NB156_154.out
                            have hns72_2 := NB159_154.out
                            have hms72_1 := NB154_156.out
                            have hms72_2 := NB154_159.out
                            refine skip_ (w1 := ?_) (by rfl) rfl ?_ ?_
                            rotate_left
                            · go_simp
                              rfl
                            refine hK.out _ _ ?_
                            clear hK K
                            refine last_ (i := 5) (N := none) #[true, true, true, true, true, true] rfl rfl (by kernel_rfl) (by decide) (fun K hK => ?_)
                            have hs73 : w67.cell? ⟨gb156, 0, none⟩ = some (.int .i64 x157000_2) := (blk_cell BK156.out 0).trans rfl
                            have hfs73 := blk_frozen BK156.out 0
                            have hns73_0 := NB154_156.out
                            have hns73_2 := NB159_156.out
                            have hms73_0 := NB156_154.out
                            have hms73_2 := NB156_159.out
                            have hs74 : w67.cell? ⟨gb156, 1, none⟩ = some (.int .i64 x157001_2) := (blk_cell BK156.out 1).trans rfl
                            have hfs74 := blk_frozen BK156.out 1
                            have hns74_0 := NB154_156.out
                            have hns74_2 := NB159_156.out
                            have hms74_0 := NB156_154.out
                            have hms74_2 := NB156_159.out
                            have hs75 : w67.cell? ⟨gb156, 2, none⟩ = some (.int .i64 x157002_2) := (blk_cell BK156.out 2).trans rfl
                            have hfs75 := blk_frozen BK156.out 2
                            have hns75_0 := NB154_156.out
                            have hns75_2 := NB159_156.out
                            have hms75_0 := NB156_154.out
                            have hms75_2 := NB156_159.out
                            have hs76 : w67.cell? ⟨gb156, 3, none⟩ = some (.bool x157003_2) := (blk_cell BK156.out 3).trans rfl
                            have hfs76 := blk_frozen BK156.out 3
                            have hns76_0 := NB154_156.out
                            have hns76_2 := NB159_156.out
                            have hms76_0 := NB156_154.out
                            have hms76_2 := NB156_159.out
                            have hs77 : w67.cell? ⟨gb156, 4, none⟩ = some (.int .i64 x157004_2) := (blk_cell BK156.out 4).trans rfl
                            have hfs77 := blk_frozen BK156.out 4
                            have hns77_0 := NB154_156.out
                            have hns77_2 := NB159_156.out
                            have hms77_0 := NB156_154.out
                            have hms77_2 := NB156_159.out
                            refine skip_ (w1 := ?_) (by rfl) rfl ?_ ?_
                            rotate_left
                            · go_simp
                              rfl
                            refine hK.out _ _ ?_
                            clear hK K
                            refine done_ (by kernel_rfl) ?_
                            try go_wp2
                            go_meet
                            case rel => exact ⟨_, (false), (false), (t182), (t183), (t184), (t185), (t186), (t187), (t188), (t189), (t190), (t191), (by first | rfl | (simp; done) | (simp [*]; done)), (by first | rfl | (simp; done) | (simp [*]; done)), H', ⟨by have := HJ7.out; have := HK2.out; first | omega | exact Nat.le_refl _⟩, ⟨by (with_reducible repeat (first | refine blk_drewN ?_ _ | refine blk_drew ?_ | refine blk_alloc ?_ _)); refine blk_far ?_ NB154_156.out _; (with_reducible repeat (first | refine blk_drewN ?_ _ | refine blk_drew ?_ | refine blk_alloc ?_ _)); refine blk_far ?_ NB154_156.out _; (with_reducible repeat (first | refine blk_drewN ?_ _ | refine blk_drew ?_ | refine blk_alloc ?_ _)); refine blk_far ?_ NB154_156.out _; (with_reducible repeat (first | refine blk_drewN ?_ _ | refine blk_drew ?_ | refine blk_alloc ?_ _)); refine blk_far ?_ NB154_156.out _; (with_reducible repeat (first | refine blk_drewN ?_ _ | refine blk_drew ?_ | refine blk_alloc ?_ _)); refine blk_far ?_ NB154_156.out _; (with_reducible repeat (first | refine blk_drewN ?_ _ | refine blk_drew ?_ | refine blk_alloc ?_ _)); refine blk_put (cs := #[.int .i64 t182, .int .i64 t183, .int .i64 t184, .bool t185, .int .i64 x155004_2]) ?_ 4 _ rfl; (with_reducible repeat (first | refine blk_drewN ?_ _ | refine blk_drew ?_ | refine blk_alloc ?_ _)); refine blk_put (cs := #[.int .i64 t182, .int .i64 t183, .int .i64 t184, .bool x155003_2, .int .i64 x155004_2]) ?_ 3 _ rfl; (with_reducible repeat (first | refine blk_drewN ?_ _ | refine blk_drew ?_ | refine blk_alloc ?_ _)); refine blk_put (cs := #[.int .i64 t182, .int .i64 t183, .int .i64 x155002_2, .bool x155003_2, .int .i64 x155004_2]) ?_ 2 _ rfl; (with_reducible repeat (first | refine blk_drewN ?_ _ | refine blk_drew ?_ | refine blk_alloc ?_ _)); refine blk_put (cs := #[.int .i64 t182, .int .i64 x155001_2, .int .i64 x155002_2, .bool x155003_2, .int .i64 x155004_2]) ?_ 1 _ rfl; (with_reducible repeat (first | refine blk_drewN ?_ _ | refine blk_drew ?_ | refine blk_alloc ?_ _)); refine blk_put (cs := #[.int .i64 x155000_2, .int .i64 x155001_2, .int .i64 x155002_2, .bool x155003_2, .int .i64 x155004_2]) ?_ 0 _ rfl; (with_reducible repeat (first | refine blk_drewN ?_ _ | refine blk_drew ?_ | refine blk_alloc ?_ _)); exact BK154.out⟩, ⟨by (with_reducible repeat (first | refine blk_drewN ?_ _ | refine blk_drew ?_ | refine blk_alloc ?_ _)); refine blk_put (cs := #[.int .i64 t187, .int .i64 t188, .int .i64 t189, .bool t190, .int .i64 x157004_2]) ?_ 4 _ rfl; (with_reducible repeat (first | refine blk_drewN ?_ _ | refine blk_drew ?_ | refine blk_alloc ?_ _)); refine blk_put (cs := #[.int .i64 t187, .int .i64 t188, .int .i64 t189, .bool x157003_2, .int .i64 x157004_2]) ?_ 3 _ rfl; (with_reducible repeat (first | refine blk_drewN ?_ _ | refine blk_drew ?_ | refine blk_alloc ?_ _)); refine blk_put (cs := #[.int .i64 t187, .int .i64 t188, .int .i64 x157002_2, .bool x157003_2, .int .i64 x157004_2]) ?_ 2 _ rfl; (with_reducible repeat (first | refine blk_drewN ?_ _ | refine blk_drew ?_ | refine blk_alloc ?_ _)); refine blk_put (cs := #[.int .i64 t187, .int .i64 x157001_2, .int .i64 x157002_2, .bool x157003_2, .int .i64 x157004_2]) ?_ 1 _ rfl; (with_reducible repeat (first | refine blk_drewN ?_ _ | refine blk_drew ?_ | refine blk_alloc ?_ _)); refine blk_put (cs := #[.int .i64 x157000_2, .int .i64 x157001_2, .int .i64 x157002_2, .bool x157003_2, .int .i64 x157004_2]) ?_ 0 _ rfl; (with_reducible repeat (first | refine blk_drewN ?_ _ | refine blk_drew ?_ | refine blk_alloc ?_ _)); refine blk_far ?_ NB156_154.out _; (with_reducible repeat (first | refine blk_drewN ?_ _ | refine blk_drew ?_ | refine blk_alloc ?_ _)); refine blk_far ?_ NB156_154.out _; (with_reducible repeat (first | refine blk_drewN ?_ _ | refine blk_drew ?_ | refine blk_alloc ?_ _)); refine blk_far ?_ NB156_154.out _; (with_reducible repeat (first | refine blk_drewN ?_ _ | refine blk_drew ?_ | refine blk_alloc ?_ _)); refine blk_far ?_ NB156_154.out _; (with_reducible repeat (first | refine blk_drewN ?_ _ | refine blk_drew ?_ | refine blk_alloc ?_ _)); refine blk_far ?_ NB156_154.out _; (with_reducible repeat (first | refine blk_drewN ?_ _ | refine blk_drew ?_ | refine blk_alloc ?_ _)); exact BK156.out⟩, ⟨by (with_reducible repeat (first | refine blk_drewN ?_ _ | refine blk_drew ?_ | refine blk_alloc ?_ _)); refine blk_far ?_ NB159_156.out _; (with_reducible repeat (first | refine blk_drewN ?_ _ | refine blk_drew ?_ | refine blk_alloc ?_ _)); refine blk_far ?_ NB159_156.out _; (with_reducible repeat (first | refine blk_drewN ?_ _ | refine blk_drew ?_ | refine blk_alloc ?_ _)); refine blk_far ?_ NB159_156.out _; (with_reducible repeat (first | refine blk_drewN ?_ _ | refine blk_drew ?_ | refine blk_alloc ?_ _)); refine blk_far ?_ NB159_156.out _; (with_reducible repeat (first | refine blk_drewN ?_ _ | refine blk_drew ?_ | refine blk_alloc ?_ _)); refine blk_far ?_ NB159_156.out _; (with_reducible repeat (first | refine blk_drewN ?_ _ | refine blk_drew ?_ | refine blk_alloc ?_ _)); refine blk_far ?_ NB159_154.out _; (with_reducible repeat (first | refine blk_drewN ?_ _ | refine blk_drew ?_ | refine blk_alloc ?_ _)); refine blk_far ?_ NB159_154.out _; (with_reducible repeat (first | refine blk_drewN ?_ _ | refine blk_drew ?_ | refine blk_alloc ?_ _)); refine blk_far ?_ NB159_154.out _; (with_reducible repeat (first | refine blk_drewN ?_ _ | refine blk_drew ?_ | refine blk_alloc ?_ _)); refine blk_far ?_ NB159_154.out _; (with_reducible repeat (first | refine blk_drewN ?_ _ | refine blk_drew ?_ | refine blk_alloc ?_ _)); refine blk_far ?_ NB159_154.out _; (with_reducible repeat (first | refine blk_drewN ?_ _ | refine blk_drew ?_ | refine blk_alloc ?_ _)); exact BK159.out⟩, ⟨by repeat (first | (with_reducible first | exact HB.out | apply below_alloc | apply pw_below_drewN | apply below_drew1 | refine below_set ?_ GE154.out | refine below_set ?_ GE156.out | refine below_set ?_ GE159.out) | exact HB.out)⟩⟩
                          · rw [if_neg c61] at H
                            have c61b0 : (((rd_T61 l2 x54_2).f0) == 2) = false := beq_eq_false_iff_ne.mpr c61
                            have c61b1 : (((rd_T61 l2 x54_2).f0) != 2) = true := bne_iff_ne.mpr c61
                            have H' := Aside0.mk H
                            clear H
                            go_wp2
                            go_meet
                            case rel => exact ⟨_, (false), (false), (x155000_2), (x155001_2), (x155002_2), (x155003_2), (x155004_2), (x157000_2), (x157001_2), (x157002_2), (x157003_2), (x157004_2), (by first | rfl | (simp; done) | (simp [*]; done)), (by first | rfl | (simp; done) | (simp [*]; done)), H', ⟨by have := HJ7.out; have := HK2.out; first | omega | exact Nat.le_refl _⟩, ⟨by (with_reducible repeat (first | refine blk_drewN ?_ _ | refine blk_drew ?_ | refine blk_alloc ?_ _)); refine blk_far ?_ NB154_159.out _; (with_reducible repeat (first | refine blk_drewN ?_ _ | refine blk_drew ?_ | refine blk_alloc ?_ _)); refine blk_far ?_ NB154_159.out _; (with_reducible repeat (first | refine blk_drewN ?_ _ | refine blk_drew ?_ | refine blk_alloc ?_ _)); exact BK154.out⟩, ⟨by (with_reducible repeat (first | refine blk_drewN ?_ _ | refine blk_drew ?_ | refine blk_alloc ?_ _)); refine blk_far ?_ NB156_159.out _; (with_reducible repeat (first | refine blk_drewN ?_ _ | refine blk_drew ?_ | refine blk_alloc ?_ _)); refine blk_far ?_ NB156_159.out _; (with_reducible repeat (first | refine blk_drewN ?_ _ | refine blk_drew ?_ | refine blk_alloc ?_ _)); exact BK156.out⟩, ⟨by (with_reducible repeat (first | refine blk_drewN ?_ _ | refine blk_drew ?_ | refine blk_alloc ?_ _)); refine blk_put (cs := #[.int .u8 ((rd_T61 l2 x54_2).f0), .int .u16 0]) ?_ 1 _ rfl; (with_reducible repeat (first | refine blk_drewN ?_ _ | refine blk_drew ?_ | refine blk_alloc ?_ _)); refine blk_put (cs := #[.int .u8 0, .int .u16 0]) ?_ 0 _ rfl; (with_reducible repeat (first | refine blk_drewN ?_ _ | refine blk_drew ?_ | refine blk_alloc ?_ _)); exact BK159.out⟩, ⟨by repeat (first | (with_reducible first | exact HB.out | apply below_alloc | apply pw_below_drewN | apply below_drew1 | refine below_set ?_ GE154.out | refine below_set ?_ GE156.out | refine below_set ?_ GE159.out) | exact HB.out)⟩⟩
                    case rest =>
                      clear HC27
                      try clear c1
                      try clear p1
                      try clear q1
                      try clear hx1
                      try clear c2
                      try clear p2
                      try clear c3
                      try clear c4
                      try clear c4b0
                      try clear c4b1
                      try clear c6
                      try clear p6
                      try clear c7
                      try clear c12
                      try clear c12b0
                      try clear c13
                      try clear c13b0
                      try clear c14
                      try clear c14b0
                      try clear c15
                      try clear p15
                      try clear q15
                      try clear hx15
                      try clear c17
                      try clear c18
                      try clear c18b0
                      try clear c18b1
                      try clear c22
                      try clear c24
                      try clear c24b0
                      try clear c25
                      try clear c25b0
                      try clear c26
                      try clear c26b0
                      try clear c27
                      try clear c28
                      try clear c29
                      try clear c30
                      try clear c31
                      try clear c32
                      try clear c32b0
                      try clear c32b1
                      try clear c35
                      try clear c36
                      try clear c40
                      try clear c44
                      try clear c44b0
                      try clear c44b1
                      try clear c61
                      try clear c61b0
                      try clear c61b1
                      try clear p64
                      try clear hcz11_0
                      try clear hcz11_1
                      try clear hcz11_2
                      try clear hcz11_3
                      try clear hcz11_4
                      try clear hcz20_0
                      try clear hcz20_1
                      try clear hcz20_2
                      try clear hcz20_3
                      try clear hcz20_4
                      try clear hcz23_0
                      try clear hcz23_1
                      try clear hcz23_2
                      try clear hcz23_3
                      try clear hcz23_4
                      try clear hcz31_0
                      try clear hcz31_1
                      try clear hcz37_0
                      try clear hcz37_1
                      try clear hcz37_2
                      try clear hcz37_3
                      try clear hcz37_4
                      try clear hcz39_0
                      try clear hcz39_1
                      try clear hcz39_2
                      try clear hcz39_3
                      try clear hcz39_4
                      try clear hcz41_0
                      try clear hcz41_1
                      try clear hcz41_2
                      try clear hcz41_3
                      try clear hcz41_4
                      try clear hcz43_0
                      try clear hcz43_1
                      try clear hcz43_2
                      try clear hcz43_3
                      try clear hcz43_4
                      try clear hfz11_0
                      try clear hfz11_1
                      try clear hfz11_2
                      try clear hfz11_3
                      try clear hfz11_4
                      try clear hfz20_0
                      try clear hfz20_1
                      try clear hfz20_2
                      try clear hfz20_3
                      try clear hfz20_4
                      try clear hfz23_0
                      try clear hfz23_1
                      try clear hfz23_2
                      try clear hfz23_3
                      try clear hfz23_4
                      try clear hfz31_0
                      try clear hfz31_1
                      try clear hfz37_0
                      try clear hfz37_1
                      try clear hfz37_2
                      try clear hfz37_3
                      try clear hfz37_4
                      try clear hfz39_0
                      try clear hfz39_1
                      try clear hfz39_2
                      try clear hfz39_3
                      try clear hfz39_4
                      try clear hfz41_0
                      try clear hfz41_1
                      try clear hfz41_2
                      try clear hfz41_3
                      try clear hfz41_4
                      try clear hfz43_0
                      try clear hfz43_1
                      try clear hfz43_2
                      try clear hfz43_3
                      try clear hfz43_4
                      try clear hx158_0
                      try clear hx158_1
                      try clear p158
                      try clear p2
                      try clear q158
                      obtain ⟨kq, x13_26, x14_26, x155000_26, x155001_26, x155002_26, x155003_26, x155004_26, x157000_26, x157001_26, x157002_26, x157003_26, x157004_26, rfl, rfl, HA, HJ26, BK154, BK156, BK159, HB⟩ := hcut
                      cases kq with
                      | zero => exact absurd HA.out (by simp [carousellaw15_BurstPlays.j2])
                      | succ kj26 =>
                        have H := HA.out
                        clear HA
                        simp only [carousellaw15_BurstPlays.j2] at H
                        by_cases c78 : (x13_26 != x14_26) = true
                        · rw [if_pos c78] at H
                          have c78b0 : (x13_26 != x14_26) = true := c78
                          (try (have c78b1 : decide (x13_26 = x14_26) = false := by simpa using c78))
                          (try (have c78b2 : (x13_26 == x14_26) = false := by simpa using c78))
                          (try (have c78b3 : ¬ (x13_26 = x14_26) := by simpa using c78))
                          clear c78
                          cases (Option.some.inj H).trans hT
                        · rw [if_neg c78] at H
                          have c78b0 : (x13_26 != x14_26) = false := by simpa using c78
                          (try (have c78b1 : decide (x13_26 = x14_26) = true := by simpa using c78))
                          (try (have c78b2 : (x13_26 == x14_26) = true := by simpa using c78))
                          clear c78
                          by_cases c79 : (!(x155000_26 == x157000_26) || (!(x155001_26 == x157001_26) || (!(x155002_26 == x157002_26) || (!(x155003_26 == x157003_26) || (!(x155004_26 == x157004_26)))))) = true
                          · rw [if_pos c79] at H
                            have c79b0 : (!(x155000_26 == x157000_26) || (!(x155001_26 == x157001_26) || (!(x155002_26 == x157002_26) || (!(x155003_26 == x157003_26) || (!(x155004_26 == x157004_26)))))) = true := c79
                            clear c79
                            cases (Option.some.inj H).trans hT
                          · rw [if_neg c79] at H
                            have c79b0 : (!(x155000_26 == x157000_26) || (!(x155001_26 == x157001_26) || (!(x155002_26 == x157002_26) || (!(x155003_26 == x157003_26) || (!(x155004_26 == x157004_26)))))) = false := by simpa using c79
                            clear c79
                            have H' := Aside0.mk H
                            clear H
                            have hnb80 := NB154_156.out
                            have hnc80 := NB156_154.out
                            have hnb81 := NB154_159.out
                            have hnc81 := NB159_154.out
                            have hcz82_0 : wc.cell? ⟨gb154, 0, none⟩ = some (.int .i64 x155000_26) := (blk_cell BK154.out 0).trans rfl
                            have hcz82_1 : wc.cell? ⟨gb154, 1, none⟩ = some (.int .i64 x155001_26) := (blk_cell BK154.out 1).trans rfl
                            have hcz82_2 : wc.cell? ⟨gb154, 2, none⟩ = some (.int .i64 x155002_26) := (blk_cell BK154.out 2).trans rfl
                            have hcz82_3 : wc.cell? ⟨gb154, 3, none⟩ = some (.bool x155003_26) := (blk_cell BK154.out 3).trans rfl
                            have hcz82_4 : wc.cell? ⟨gb154, 4, none⟩ = some (.int .i64 x155004_26) := (blk_cell BK154.out 4).trans rfl
                            have hfz82_0 := blk_frozen BK154.out 0
                            have hfz82_1 := blk_frozen BK154.out 1
                            have hfz82_2 := blk_frozen BK154.out 2
                            have hfz82_3 := blk_frozen BK154.out 3
                            have hfz82_4 := blk_frozen BK154.out 4
                            have hnb83 := NB156_159.out
                            have hnc83 := NB159_156.out
                            have hcz84_0 : wc.cell? ⟨gb156, 0, none⟩ = some (.int .i64 x157000_26) := (blk_cell BK156.out 0).trans rfl
                            have hcz84_1 : wc.cell? ⟨gb156, 1, none⟩ = some (.int .i64 x157001_26) := (blk_cell BK156.out 1).trans rfl
                            have hcz84_2 : wc.cell? ⟨gb156, 2, none⟩ = some (.int .i64 x157002_26) := (blk_cell BK156.out 2).trans rfl
                            have hcz84_3 : wc.cell? ⟨gb156, 3, none⟩ = some (.bool x157003_26) := (blk_cell BK156.out 3).trans rfl
                            have hcz84_4 : wc.cell? ⟨gb156, 4, none⟩ = some (.int .i64 x157004_26) := (blk_cell BK156.out 4).trans rfl
                            have hfz84_0 := blk_frozen BK156.out 0
                            have hfz84_1 := blk_frozen BK156.out 1
                            have hfz84_2 := blk_frozen BK156.out 2
                            have hfz84_3 := blk_frozen BK156.out 3
                            have hfz84_4 := blk_frozen BK156.out 4
                            go_wp2
                            go_roundg kj26
                            case measure => have := HJ7.out; have := HK2.out; have := HJ26.out; omega
                            case rel => exact ⟨((wrap64 (x10_2 + (wrap64 ((rd_T61 l2 x54_2).f1))))), (wrap64 (x54_2 + 1)), (x155000_26), (x155001_26), (x155002_26), (x155003_26), (x155004_26), (x157000_26), (x157001_26), (x157002_26), (x157003_26), (x157004_26), (by first | rfl | (simp; done) | (simp [*]; done)), (by first | rfl | (simp; done) | (simp [*]; done)), H', ⟨by have := HJ7.out; have := HK2.out; have := HJ26.out; omega⟩, ⟨by (with_reducible repeat (first | refine blk_drewN ?_ _ | refine blk_drew ?_ | refine blk_alloc ?_ _)); exact BK154.out⟩, ⟨by (with_reducible repeat (first | refine blk_drewN ?_ _ | refine blk_drew ?_ | refine blk_alloc ?_ _)); exact BK156.out⟩, ⟨by repeat (first | (with_reducible first | exact HB.out | apply below_alloc | apply pw_below_drewN | apply below_drew1 | refine below_set ?_ GE154.out | refine below_set ?_ GE156.out | refine below_set ?_ GE159.out) | exact HB.out)⟩⟩
                  · rw [if_neg c26] at H
                    exact absurd H (by simp)
                · rw [if_neg c25] at H
                  exact absurd H (by simp)
              · rw [if_neg c24] at H
                have c24b0 : decide (x54_2 < (l2.length : Int)) = false := decide_eq_false c24
                clear c24
                replace H := Option.bind_eq_some_iff.mp H
                obtain ⟨t157, A850, H⟩ := H
                replace H : (if t157 = true then (some (t153 == 0)) else (some false)) = some r := H
                have A85 := Aside0.mk A850
                clear A850
                by_cases c86 : t157 = true
                · subst c86
                  have H1 : (some (t153 == 0)) = some r := by rw [if_pos rfl] at H; exact H
                  clear H
                  have H := H1
                  clear H1
                  obtain rfl := Option.some.inj H
                  go_wp2_with (first | ((with_reducible refine gate_callee (f := 25) rfl ?_); refine goesL_ (some 102) rfl rfl Try.func25 (by kernel_rfl) rfl #[] rfl (by (try simp only [List.map_toArray, List.map_cons, List.map_nil]); first | done | rfl | (simp only [List.length_drop, List.length_take]; rfl)) ?_; (with_reducible refine (carousellaw15_Awake.calls k2  true _ A85.out).mono ?_); rintro e w87 ⟨rfl, hb⟩; refine ⟨_, rfl, ?_⟩; have n0_ := Aside0.mk (blk_below (g := gb154) (o := .cells #[.int .i64 x155000_2, .int .i64 x155001_2, .int .i64 x155002_2, .bool x155003_2, .int .i64 x155004_2] 55 (0, 0)) (by (with_reducible repeat (first | refine blk_drewN ?_ _ | refine blk_drew ?_ | refine blk_alloc ?_ _)); exact BK154.out) hb); have n1_ := Aside0.mk (blk_below (g := gb156) (o := .cells #[.int .i64 x157000_2, .int .i64 x157001_2, .int .i64 x157002_2, .bool x157003_2, .int .i64 x157004_2] 58 (0, 0)) (by (with_reducible repeat (first | refine blk_drewN ?_ _ | refine blk_drew ?_ | refine blk_alloc ?_ _)); exact BK156.out) hb); have n2_ := Aside0.mk (below_step (by repeat (first | (with_reducible first | exact HB.out | apply below_alloc | apply pw_below_drewN | apply below_drew1 | refine below_set ?_ GE154.out | refine below_set ?_ GE156.out) | exact HB.out)) hb); clear BK154; clear BK156; clear HB; have BK154 := n0_; have BK156 := n1_; have HB := n2_; clear n0_ n1_ n2_; (try clear hb); (try clear hb2); (try clear hk); (try clear hi)))
                  go_ret
                  exact ⟨by first | rfl | (simp [errW_none, errW_some] <;> rfl) | (simp [*, errW_none, errW_some] <;> rfl), by repeat (first | (with_reducible first | exact HB.out | apply below_alloc | apply pw_below_drewN | apply below_drew1 | refine below_set ?_ GE154.out | refine below_set ?_ GE156.out) | exact HB.out)⟩
                · replace c86 := Bool.eq_false_iff.mpr c86
                  subst c86
                  have H1 : (some false) = some r := by rw [if_neg (show ¬ (false = true) by decide)] at H; exact H
                  clear H
                  have H := H1
                  clear H1
                  cases (Option.some.inj H).trans hT

/-- THE ONE PURE STATEMENT of carousellaw15_BurstPlays: yours. -/
def carousellaw15_BurstPlays.Pure : Prop := ∀ (a0 : Int) (a1 : Int) (l2 : List (S61)), (Lit.int .i64 a0).wf = true → (Lit.int .i64 a1).wf = true → l2.length ≤ maxLen → l2.length * 4 ≤ 140737488351232 → (∀ x ∈ l2, (Lit.int .u8 (x).f0).wf = true ∧ (Lit.int .u16 (x).f1).wf = true) → ∃ k, carousellaw15_BurstPlays.f k a0 a1 l2 = some true
theorem carousellaw15_BurstPlays.walk (P : carousellaw15_BurstPlays.Pure) (a0 : Int) (a1 : Int) (A2 : Option Addr) (c2 : Nat) (l2 : List (S61)) (w : World) (w0_0 : (Lit.int .i64 a0).wf = true) (w1_0 : (Lit.int .i64 a1).wf = true) (hr2 : Kd.C k61 w A2 l2.length l2) (hc2 : l2.length ≤ c2) (w2_0 : l2.length ≤ maxLen) (w2_1 : l2.length * 4 ≤ 140737488351232) (w2_2 : (∀ x ∈ l2, (Lit.int .u8 (x).f0).wf = true ∧ (Lit.int .u16 (x).f1).wf = true)) :
    Calls Try.prog 7 #[.int .i64 a0, .int .i64 a1, .slice A2 l2.length c2] w fun e w' => e = .returned (.bool true) ∧ Below w.heap.size w w' := by
  obtain ⟨k, h⟩ := P a0 a1 l2 w0_0 w1_0 w2_0 w2_1 w2_2
  refine (carousellaw15_BurstPlays.calls k a0 a1 A2 c2 l2 true w hr2 hc2 h rfl).mono ?_
  rintro e w' ⟨rfl, hd⟩
  exact ⟨rfl, hd⟩

end Go.Proofs.Ytmdaaphjndjakaa.PBurstPlays
