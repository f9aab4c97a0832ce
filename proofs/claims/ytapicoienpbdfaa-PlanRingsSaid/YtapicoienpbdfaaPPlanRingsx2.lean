-- Written by a program of this work, after the translation.
import Derived.Test.YtapicoienpbdfaaPPlanRingsx0
import Derived.Test.YtapicoienpbdfaaPPlanRingsx1
namespace Go.Proofs.Ytapicoienpbdfaa.PPlanRings
open Go.RowKit Go.Proofs.YtapicoienpbdfaaW.PrintWords Go.Proofs.YtapicoienpbdfaaW.PrintLast Go.Proofs.YtapicoienpbdfaaW.PrintMore
attribute [local go_sem] max2_int min2_int max_two min_two max_three min_three max_four min_four   -- for this text's walks alone
set_option linter.unusedVariables false
set_option linter.unusedSimpArgs false

/-! ### plan_Plan_Check: function 30 -/
mutual
def plan_Plan_Check.j0 : Nat → Bool → Int → Int → Int → Int → Int → Int → Int → Int → Int → Int → Int → Int → Int → Int → Int → Bool → Option (Int)
  | 0, _, _, _, _, _, _, _, _, _, _, _, _, _, _, _, _, _ => none
  | k + 1, x3, x103000, x103001, x103002, x103003, x103004, x103005, x103006, x103007, x103008, x103009, x103010, x103011, x103012, x103013, x103014, x103015 => if x3 = true then (some 4) else (if x103001 < 0 then (plan_Plan_Check.j1 k true x103000 x103001 x103002 x103003 x103004 x103005 x103006 x103007 x103008 x103009 x103010 x103011 x103012 x103013 x103014 x103015) else (if x103001 ≥ x103000 then (plan_Plan_Check.j1 k true x103000 x103001 x103002 x103003 x103004 x103005 x103006 x103007 x103008 x103009 x103010 x103011 x103012 x103013 x103014 x103015) else (plan_Plan_Check.j1 k (decide (x103002 > 7)) x103000 x103001 x103002 x103003 x103004 x103005 x103006 x103007 x103008 x103009 x103010 x103011 x103012 x103013 x103014 x103015)))
def plan_Plan_Check.j1 : Nat → Bool → Int → Int → Int → Int → Int → Int → Int → Int → Int → Int → Int → Int → Int → Int → Int → Bool → Option (Int)
  | 0, _, _, _, _, _, _, _, _, _, _, _, _, _, _, _, _, _ => none
  | k + 1, x12, x103000, x103001, x103002, x103003, x103004, x103005, x103006, x103007, x103008, x103009, x103010, x103011, x103012, x103013, x103014, x103015 => if x12 = true then (some 4) else ((plan_vlan.f x103003).bind fun t103 => (if t103 = true then ((plan_vlan.f x103004).bind fun t104 => (if t104 = true then (plan_Plan_Check.j2 k (x103003 == x103004) x103000 x103001 x103002 x103003 x103004 x103005 x103006 x103007 x103008 x103009 x103010 x103011 x103012 x103013 x103014 x103015) else (plan_Plan_Check.j2 k true x103000 x103001 x103002 x103003 x103004 x103005 x103006 x103007 x103008 x103009 x103010 x103011 x103012 x103013 x103014 x103015))) else (plan_Plan_Check.j2 k true x103000 x103001 x103002 x103003 x103004 x103005 x103006 x103007 x103008 x103009 x103010 x103011 x103012 x103013 x103014 x103015)))
def plan_Plan_Check.j2 : Nat → Bool → Int → Int → Int → Int → Int → Int → Int → Int → Int → Int → Int → Int → Int → Int → Int → Bool → Option (Int)
  | 0, _, _, _, _, _, _, _, _, _, _, _, _, _, _, _, _, _ => none
  | k + 1, x28, x103000, x103001, x103002, x103003, x103004, x103005, x103006, x103007, x103008, x103009, x103010, x103011, x103012, x103013, x103014, x103015 => if x28 = true then (some 5) else ((plan_lengths.f k (([x103005, x103007, x103008, x103009, x103010, x103011, x103012] : List Int))).bind fun t108 => (if t108 = true then (if x103006 < 0 then (plan_Plan_Check.j3 k true x103000 x103001 x103002 x103003 x103004 x103005 x103006 x103007 x103008 x103009 x103010 x103011 x103012 x103013 x103014 x103015) else (plan_Plan_Check.j3 k (decide (x103006 > 1048576)) x103000 x103001 x103002 x103003 x103004 x103005 x103006 x103007 x103008 x103009 x103010 x103011 x103012 x103013 x103014 x103015)) else (plan_Plan_Check.j3 k true x103000 x103001 x103002 x103003 x103004 x103005 x103006 x103007 x103008 x103009 x103010 x103011 x103012 x103013 x103014 x103015)))
def plan_Plan_Check.j3 : Nat → Bool → Int → Int → Int → Int → Int → Int → Int → Int → Int → Int → Int → Int → Int → Int → Int → Bool → Option (Int)
  | 0, _, _, _, _, _, _, _, _, _, _, _, _, _, _, _, _, _ => none
  | k + 1, x46, x103000, x103001, x103002, x103003, x103004, x103005, x103006, x103007, x103008, x103009, x103010, x103011, x103012, x103013, x103014, x103015 => if x46 = true then (some 4) else (if x103013 < 1 then (plan_Plan_Check.j4 k true) else (if x103013 > 1024 then (plan_Plan_Check.j4 k true) else (if x103014 < 1 then (plan_Plan_Check.j4 k true) else (plan_Plan_Check.j4 k (decide (x103014 > 256))))))
def plan_Plan_Check.j4 : Nat → Bool → Option (Int)
  | 0, _ => none
  | k + 1, x74 => if x74 = true then (some 4) else (some 0)
end
def plan_Plan_Check.f (k : Nat) (a0_0 : Int) (a0_1 : Int) (a0_2 : Int) (a0_3 : Int) (a0_4 : Int) (a0_5 : Int) (a0_6 : Int) (a0_7 : Int) (a0_8 : Int) (a0_9 : Int) (a0_10 : Int) (a0_11 : Int) (a0_12 : Int) (a0_13 : Int) (a0_14 : Int) (a0_15 : Bool) : Option (Int) := if a0_0 < 3 then (plan_Plan_Check.j0 k true a0_0 a0_1 a0_2 a0_3 a0_4 a0_5 a0_6 a0_7 a0_8 a0_9 a0_10 a0_11 a0_12 a0_13 a0_14 a0_15) else (plan_Plan_Check.j0 k (decide (a0_0 > 16)) a0_0 a0_1 a0_2 a0_3 a0_4 a0_5 a0_6 a0_7 a0_8 a0_9 a0_10 a0_11 a0_12 a0_13 a0_14 a0_15)
theorem plan_Plan_Check.mono_l : ∀ k, (∀ y0 y1 y2 y3 y4 y5 y6 y7 y8 y9 y10 y11 y12 y13 y14 y15 y16, LeO (plan_Plan_Check.j0 k y0 y1 y2 y3 y4 y5 y6 y7 y8 y9 y10 y11 y12 y13 y14 y15 y16) (plan_Plan_Check.j0 (k + 1) y0 y1 y2 y3 y4 y5 y6 y7 y8 y9 y10 y11 y12 y13 y14 y15 y16)) ∧ (∀ y0 y1 y2 y3 y4 y5 y6 y7 y8 y9 y10 y11 y12 y13 y14 y15 y16, LeO (plan_Plan_Check.j1 k y0 y1 y2 y3 y4 y5 y6 y7 y8 y9 y10 y11 y12 y13 y14 y15 y16) (plan_Plan_Check.j1 (k + 1) y0 y1 y2 y3 y4 y5 y6 y7 y8 y9 y10 y11 y12 y13 y14 y15 y16)) ∧ (∀ y0 y1 y2 y3 y4 y5 y6 y7 y8 y9 y10 y11 y12 y13 y14 y15 y16, LeO (plan_Plan_Check.j2 k y0 y1 y2 y3 y4 y5 y6 y7 y8 y9 y10 y11 y12 y13 y14 y15 y16) (plan_Plan_Check.j2 (k + 1) y0 y1 y2 y3 y4 y5 y6 y7 y8 y9 y10 y11 y12 y13 y14 y15 y16)) ∧ (∀ y0 y1 y2 y3 y4 y5 y6 y7 y8 y9 y10 y11 y12 y13 y14 y15 y16, LeO (plan_Plan_Check.j3 k y0 y1 y2 y3 y4 y5 y6 y7 y8 y9 y10 y11 y12 y13 y14 y15 y16) (plan_Plan_Check.j3 (k + 1) y0 y1 y2 y3 y4 y5 y6 y7 y8 y9 y10 y11 y12 y13 y14 y15 y16)) ∧ (∀ y0, LeO (plan_Plan_Check.j4 k y0) (plan_Plan_Check.j4 (k + 1) y0))
  | 0 => ⟨fun _ _ _ _ _ _ _ _ _ _ _ _ _ _ _ _ _ r h => by simp [plan_Plan_Check.j0] at h, fun _ _ _ _ _ _ _ _ _ _ _ _ _ _ _ _ _ r h => by simp [plan_Plan_Check.j1] at h, fun _ _ _ _ _ _ _ _ _ _ _ _ _ _ _ _ _ r h => by simp [plan_Plan_Check.j2] at h, fun _ _ _ _ _ _ _ _ _ _ _ _ _ _ _ _ _ r h => by simp [plan_Plan_Check.j3] at h, fun _ r h => by simp [plan_Plan_Check.j4] at h⟩
  | k + 1 => by
    obtain ⟨ih0, ih1, ih2, ih3, ih4⟩ := plan_Plan_Check.mono_l k
    refine ⟨?_, ?_, ?_, ?_, ?_⟩
    · intro y0 y1 y2 y3 y4 y5 y6 y7 y8 y9 y10 y11 y12 y13 y14 y15 y16
      unfold plan_Plan_Check.j0
      repeat' first
      | (with_reducible exact ih0 _ _ _ _ _ _ _ _ _ _ _ _ _ _ _ _ _)
      | (with_reducible exact ih1 _ _ _ _ _ _ _ _ _ _ _ _ _ _ _ _ _)
      | (with_reducible exact ih2 _ _ _ _ _ _ _ _ _ _ _ _ _ _ _ _ _)
      | (with_reducible exact ih3 _ _ _ _ _ _ _ _ _ _ _ _ _ _ _ _ _)
      | (with_reducible exact ih4 _)
      | (with_reducible exact plan_lengths.mono _ _)
      | (with_reducible exact LeO.refl _)
      | (with_reducible exact LeO.none _)
      | (with_reducible refine LeO.ite ?_ ?_)
      | (with_reducible refine LeO.bind ?_ (fun _ => ?_))
      | exact ih0 _ _ _ _ _ _ _ _ _ _ _ _ _ _ _ _ _
      | exact ih1 _ _ _ _ _ _ _ _ _ _ _ _ _ _ _ _ _
      | exact ih2 _ _ _ _ _ _ _ _ _ _ _ _ _ _ _ _ _
      | exact ih3 _ _ _ _ _ _ _ _ _ _ _ _ _ _ _ _ _
      | exact ih4 _
      | exact plan_lengths.mono _ _
      | exact LeO.none _
      | refine LeO.ite ?_ ?_
      | refine LeO.bind ?_ (fun _ => ?_)
    · intro y0 y1 y2 y3 y4 y5 y6 y7 y8 y9 y10 y11 y12 y13 y14 y15 y16
      unfold plan_Plan_Check.j1
      repeat' first
      | (with_reducible exact ih0 _ _ _ _ _ _ _ _ _ _ _ _ _ _ _ _ _)
      | (with_reducible exact ih1 _ _ _ _ _ _ _ _ _ _ _ _ _ _ _ _ _)
      | (with_reducible exact ih2 _ _ _ _ _ _ _ _ _ _ _ _ _ _ _ _ _)
      | (with_reducible exact ih3 _ _ _ _ _ _ _ _ _ _ _ _ _ _ _ _ _)
      | (with_reducible exact ih4 _)
      | (with_reducible exact plan_lengths.mono _ _)
      | (with_reducible exact LeO.refl _)
      | (with_reducible exact LeO.none _)
      | (with_reducible refine LeO.ite ?_ ?_)
      | (with_reducible refine LeO.bind ?_ (fun _ => ?_))
      | exact ih0 _ _ _ _ _ _ _ _ _ _ _ _ _ _ _ _ _
      | exact ih1 _ _ _ _ _ _ _ _ _ _ _ _ _ _ _ _ _
      | exact ih2 _ _ _ _ _ _ _ _ _ _ _ _ _ _ _ _ _
      | exact ih3 _ _ _ _ _ _ _ _ _ _ _ _ _ _ _ _ _
      | exact ih4 _
      | exact plan_lengths.mono _ _
      | exact LeO.none _
      | refine LeO.ite ?_ ?_
      | refine LeO.bind ?_ (fun _ => ?_)
    · intro y0 y1 y2 y3 y4 y5 y6 y7 y8 y9 y10 y11 y12 y13 y14 y15 y16
      unfold plan_Plan_Check.j2
      repeat' first
      | (with_reducible exact ih0 _ _ _ _ _ _ _ _ _ _ _ _ _ _ _ _ _)
      | (with_reducible exact ih1 _ _ _ _ _ _ _ _ _ _ _ _ _ _ _ _ _)
      | (with_reducible exact ih2 _ _ _ _ _ _ _ _ _ _ _ _ _ _ _ _ _)
      | (with_reducible exact ih3 _ _ _ _ _ _ _ _ _ _ _ _ _ _ _ _ _)
      | (with_reducible exact ih4 _)
      | (with_reducible exact plan_lengths.mono _ _)
      | (with_reducible exact LeO.refl _)
      | (with_reducible exact LeO.none _)
      | (with_reducible refine LeO.ite ?_ ?_)
      | (with_reducible refine LeO.bind ?_ (fun _ => ?_))
      | exact ih0 _ _ _ _ _ _ _ _ _ _ _ _ _ _ _ _ _
      | exact ih1 _ _ _ _ _ _ _ _ _ _ _ _ _ _ _ _ _
      | exact ih2 _ _ _ _ _ _ _ _ _ _ _ _ _ _ _ _ _
      | exact ih3 _ _ _ _ _ _ _ _ _ _ _ _ _ _ _ _ _
      | exact ih4 _
      | exact plan_lengths.mono _ _
      | exact LeO.none _
      | refine LeO.ite ?_ ?_
      | refine LeO.bind ?_ (fun _ => ?_)
    · intro y0 y1 y2 y3 y4 y5 y6 y7 y8 y9 y10 y11 y12 y13 y14 y15 y16
      unfold plan_Plan_Check.j3
      repeat' first
      | (with_reducible exact ih0 _ _ _ _ _ _ _ _ _ _ _ _ _ _ _ _ _)
      | (with_reducible exact ih1 _ _ _ _ _ _ _ _ _ _ _ _ _ _ _ _ _)
      | (with_reducible exact ih2 _ _ _ _ _ _ _ _ _ _ _ _ _ _ _ _ _)
      | (with_reducible exact ih3 _ _ _ _ _ _ _ _ _ _ _ _ _ _ _ _ _)
      | (with_reducible exact ih4 _)
      | (with_reducible exact plan_lengths.mono _ _)
      | (with_reducible exact LeO.refl _)
      | (with_reducible exact LeO.none _)
      | (with_reducible refine LeO.ite ?_ ?_)
      | (with_reducible refine LeO.bind ?_ (fun _ => ?_))
      | exact ih0 _ _ _ _ _ _ _ _ _ _ _ _ _ _ _ _ _
      | exact ih1 _ _ _ _ _ _ _ _ _ _ _ _ _ _ _ _ _
      | exact ih2 _ _ _ _ _ _ _ _ _ _ _ _ _ _ _ _ _
      | exact ih3 _ _ _ _ _ _ _ _ _ _ _ _ _ _ _ _ _
      | exact ih4 _
      | exact plan_lengths.mono _ _
      | exact LeO.none _
      | refine LeO.ite ?_ ?_
      | refine LeO.bind ?_ (fun _ => ?_)
    · intro y0
      unfold plan_Plan_Check.j4
      repeat' first
      | (with_reducible exact ih0 _ _ _ _ _ _ _ _ _ _ _ _ _ _ _ _ _)
      | (with_reducible exact ih1 _ _ _ _ _ _ _ _ _ _ _ _ _ _ _ _ _)
      | (with_reducible exact ih2 _ _ _ _ _ _ _ _ _ _ _ _ _ _ _ _ _)
      | (with_reducible exact ih3 _ _ _ _ _ _ _ _ _ _ _ _ _ _ _ _ _)
      | (with_reducible exact ih4 _)
      | (with_reducible exact plan_lengths.mono _ _)
      | (with_reducible exact LeO.refl _)
      | (with_reducible exact LeO.none _)
      | (with_reducible refine LeO.ite ?_ ?_)
      | (with_reducible refine LeO.bind ?_ (fun _ => ?_))
      | exact ih0 _ _ _ _ _ _ _ _ _ _ _ _ _ _ _ _ _
      | exact ih1 _ _ _ _ _ _ _ _ _ _ _ _ _ _ _ _ _
      | exact ih2 _ _ _ _ _ _ _ _ _ _ _ _ _ _ _ _ _
      | exact ih3 _ _ _ _ _ _ _ _ _ _ _ _ _ _ _ _ _
      | exact ih4 _
      | exact plan_lengths.mono _ _
      | exact LeO.none _
      | refine LeO.ite ?_ ?_
      | refine LeO.bind ?_ (fun _ => ?_)
theorem plan_Plan_Check.mono : ∀ a0 a1 a2 a3 a4 a5 a6 a7 a8 a9 a10 a11 a12 a13 a14 a15 k, LeO (plan_Plan_Check.f k a0 a1 a2 a3 a4 a5 a6 a7 a8 a9 a10 a11 a12 a13 a14 a15) (plan_Plan_Check.f (k + 1) a0 a1 a2 a3 a4 a5 a6 a7 a8 a9 a10 a11 a12 a13 a14 a15) := by
  intro a0 a1 a2 a3 a4 a5 a6 a7 a8 a9 a10 a11 a12 a13 a14 a15 k
  obtain ⟨ih0, ih1, ih2, ih3, ih4⟩ := plan_Plan_Check.mono_l k
  unfold plan_Plan_Check.f
  repeat' first
      | (with_reducible exact ih0 _ _ _ _ _ _ _ _ _ _ _ _ _ _ _ _ _)
      | (with_reducible exact ih1 _ _ _ _ _ _ _ _ _ _ _ _ _ _ _ _ _)
      | (with_reducible exact ih2 _ _ _ _ _ _ _ _ _ _ _ _ _ _ _ _ _)
      | (with_reducible exact ih3 _ _ _ _ _ _ _ _ _ _ _ _ _ _ _ _ _)
      | (with_reducible exact ih4 _)
      | (with_reducible exact plan_lengths.mono _ _)
      | (with_reducible exact LeO.refl _)
      | (with_reducible exact LeO.none _)
      | (with_reducible refine LeO.ite ?_ ?_)
      | (with_reducible refine LeO.bind ?_ (fun _ => ?_))
      | exact ih0 _ _ _ _ _ _ _ _ _ _ _ _ _ _ _ _ _
      | exact ih1 _ _ _ _ _ _ _ _ _ _ _ _ _ _ _ _ _
      | exact ih2 _ _ _ _ _ _ _ _ _ _ _ _ _ _ _ _ _
      | exact ih3 _ _ _ _ _ _ _ _ _ _ _ _ _ _ _ _ _
      | exact ih4 _
      | exact plan_lengths.mono _ _
      | exact LeO.none _
      | refine LeO.ite ?_ ?_
      | refine LeO.bind ?_ (fun _ => ?_)
set_option maxHeartbeats 8000000 in
set_option maxRecDepth 100000 in
theorem plan_Plan_Check.calls (k : Nat) (a0_0 : Int) (a0_1 : Int) (a0_2 : Int) (a0_3 : Int) (a0_4 : Int) (a0_5 : Int) (a0_6 : Int) (a0_7 : Int) (a0_8 : Int) (a0_9 : Int) (a0_10 : Int) (a0_11 : Int) (a0_12 : Int) (a0_13 : Int) (a0_14 : Int) (a0_15 : Bool) (r : Int) (w : World) (h : plan_Plan_Check.f k a0_0 a0_1 a0_2 a0_3 a0_4 a0_5 a0_6 a0_7 a0_8 a0_9 a0_10 a0_11 a0_12 a0_13 a0_14 a0_15 = some r) :
    Calls Try.prog 30 #[.agg #[.int .i64 a0_0, .int .i64 a0_1, .int .u8 a0_2, .int .u16 a0_3, .int .u16 a0_4, .int .i64 a0_5, .int .i64 a0_6, .int .i64 a0_7, .int .i64 a0_8, .int .i64 a0_9, .int .i64 a0_10, .int .i64 a0_11, .int .i64 a0_12, .int .i64 a0_13, .int .i64 a0_14, .bool a0_15]] w fun e w' => e = .returned (.int .i64 r) ∧ Below w.heap.size w w' := by
  have hu24 := Try.underlying24
  have HB := Aside0.mk (Below.refl w.heap.size w)
  have H : (if a0_0 < 3 then (plan_Plan_Check.j0 k true a0_0 a0_1 a0_2 a0_3 a0_4 a0_5 a0_6 a0_7 a0_8 a0_9 a0_10 a0_11 a0_12 a0_13 a0_14 a0_15) else (plan_Plan_Check.j0 k (decide (a0_0 > 16)) a0_0 a0_1 a0_2 a0_3 a0_4 a0_5 a0_6 a0_7 a0_8 a0_9 a0_10 a0_11 a0_12 a0_13 a0_14 a0_15)) = some r := h
  clear h
  have HC2 := Aside0.mk H
  clear H
  go_enter Try.func30, Try.ntmps30
  go_upto_region 1 with (first | ((with_reducible refine gate_dst (N := 1) rfl ?_); refine box_event ?hg (N := 1) ?hd (cs := #[.int .i64 a0_0, .int .i64 a0_1, .int .u8 a0_2, .int .u16 a0_3, .int .u16 a0_4, .int .i64 a0_5, .int .i64 a0_6, .int .i64 a0_7, .int .i64 a0_8, .int .i64 a0_9, .int .i64 a0_10, .int .i64 a0_11, .int .i64 a0_12, .int .i64 a0_13, .int .i64 a0_14, .bool a0_15]) (t := 24) ?hr ?_; (case hd => rfl); (case hg => rfl); (case hr => first | (go_simp; done) | (go_simp; rfl)); intro gb102 hg w3 hbox hb; have n0_ := Aside0.mk (below_step (by repeat (first | (with_reducible first | exact HB.out | apply below_alloc | apply pw_below_drewN | apply below_drew1) | exact HB.out)) hb); have n1_ := Aside0.mk (hbox); have n2_ := Aside0.mk ((by rw [hg]; exact (below_size (by repeat (first | (with_reducible first | exact HB.out | apply below_alloc | apply pw_below_drewN | apply below_drew1) | exact HB.out))) : w.heap.size ≤ gb102)); have n3_ := Aside0.mk ((by rw [hg]; exact (below_size (by repeat (first | (with_reducible first | exact HB.out | apply below_alloc | apply pw_below_drewN | apply below_drew1) | exact HB.out))) : w.heap.size ≤ gb102)); clear HB; have HB := n0_; have BK102 := n1_; have GW102 := n2_; have GE102 := n3_; clear n0_ n1_ n2_ n3_; clear hb hbox hg))
  (try simp only [Act.put, List.setIfInBounds_toArray, List.set_cons_zero, List.set_cons_succ])
  go_cut [3] (fun v3 wc => ∃ (kq : Nat) (x3_1 : Bool), v3 = .bool x3_1 ∧ Aside0 (plan_Plan_Check.j0 kq x3_1 a0_0 a0_1 a0_2 a0_3 a0_4 a0_5 a0_6 a0_7 a0_8 a0_9 a0_10 a0_11 a0_12 a0_13 a0_14 a0_15 = some r) ∧ Aside0 (kq ≤ k) ∧ Aside0 (wc.heap[gb102]? = some (.cells #[.int .i64 a0_0, .int .i64 a0_1, .int .u8 a0_2, .int .u16 a0_3, .int .u16 a0_4, .int .i64 a0_5, .int .i64 a0_6, .int .i64 a0_7, .int .i64 a0_8, .int .i64 a0_9, .int .i64 a0_10, .int .i64 a0_11, .int .i64 a0_12, .int .i64 a0_13, .int .i64 a0_14, .bool a0_15] 24 (0, 0))) ∧ Aside0 (Below w.heap.size w wc))
  case first =>
    have H := HC2.out
    clear HC2
    by_cases c4 : a0_0 < 3
    · rw [if_pos c4] at H
      have c4b0 : decide (a0_0 < 3) = true := decide_eq_true c4
      clear c4
      (first | rw [c4b0] | (simp only [i64_w, i32_w]; rw [c4b0]) | skip)
      have H' := Aside0.mk H
      clear H
      have hcz5_0 : w3.cell? ⟨gb102, 0, none⟩ = some (.int .i64 a0_0) := (blk_cell BK102.out 0).trans rfl
      have hcz5_1 : w3.cell? ⟨gb102, 1, none⟩ = some (.int .i64 a0_1) := (blk_cell BK102.out 1).trans rfl
      have hcz5_2 : w3.cell? ⟨gb102, 2, none⟩ = some (.int .u8 a0_2) := (blk_cell BK102.out 2).trans rfl
      have hcz5_3 : w3.cell? ⟨gb102, 3, none⟩ = some (.int .u16 a0_3) := (blk_cell BK102.out 3).trans rfl
      have hcz5_4 : w3.cell? ⟨gb102, 4, none⟩ = some (.int .u16 a0_4) := (blk_cell BK102.out 4).trans rfl
      have hcz5_5 : w3.cell? ⟨gb102, 5, none⟩ = some (.int .i64 a0_5) := (blk_cell BK102.out 5).trans rfl
      have hcz5_6 : w3.cell? ⟨gb102, 6, none⟩ = some (.int .i64 a0_6) := (blk_cell BK102.out 6).trans rfl
      have hcz5_7 : w3.cell? ⟨gb102, 7, none⟩ = some (.int .i64 a0_7) := (blk_cell BK102.out 7).trans rfl
      have hcz5_8 : w3.cell? ⟨gb102, 8, none⟩ = some (.int .i64 a0_8) := (blk_cell BK102.out 8).trans rfl
      have hcz5_9 : w3.cell? ⟨gb102, 9, none⟩ = some (.int .i64 a0_9) := (blk_cell BK102.out 9).trans rfl
      have hcz5_10 : w3.cell? ⟨gb102, 10, none⟩ = some (.int .i64 a0_10) := (blk_cell BK102.out 10).trans rfl
      have hcz5_11 : w3.cell? ⟨gb102, 11, none⟩ = some (.int .i64 a0_11) := (blk_cell BK102.out 11).trans rfl
      have hcz5_12 : w3.cell? ⟨gb102, 12, none⟩ = some (.int .i64 a0_12) := (blk_cell BK102.out 12).trans rfl
      have hcz5_13 : w3.cell? ⟨gb102, 13, none⟩ = some (.int .i64 a0_13) := (blk_cell BK102.out 13).trans rfl
      have hcz5_14 : w3.cell? ⟨gb102, 14, none⟩ = some (.int .i64 a0_14) := (blk_cell BK102.out 14).trans rfl
      have hcz5_15 : w3.cell? ⟨gb102, 15, none⟩ = some (.bool a0_15) := (blk_cell BK102.out 15).trans rfl
      have hfz5_0 := blk_frozen BK102.out 0
      have hfz5_1 := blk_frozen BK102.out 1
      have hfz5_2 := blk_frozen BK102.out 2
      have hfz5_3 := blk_frozen BK102.out 3
      have hfz5_4 := blk_frozen BK102.out 4
      have hfz5_5 := blk_frozen BK102.out 5
      have hfz5_6 := blk_frozen BK102.out 6
      have hfz5_7 := blk_frozen BK102.out 7
      have hfz5_8 := blk_frozen BK102.out 8
      have hfz5_9 := blk_frozen BK102.out 9
      have hfz5_10 := blk_frozen BK102.out 10
      have hfz5_11 := blk_frozen BK102.out 11
      have hfz5_12 := blk_frozen BK102.out 12
      have hfz5_13 := blk_frozen BK102.out 13
      have hfz5_14 := blk_frozen BK102.out 14
      have hfz5_15 := blk_frozen BK102.out 15
      go_wp2
      go_meet
      case rel => exact ⟨_, (true), (by first | rfl | (simp; done) | (simp [*]; done)), H', ⟨by first | omega | exact Nat.le_refl _⟩, ⟨by (with_reducible repeat (first | refine blk_drewN ?_ _ | refine blk_drew ?_ | refine blk_alloc ?_ _)); exact BK102.out⟩, ⟨by repeat (first | (with_reducible first | exact HB.out | apply below_alloc | apply pw_below_drewN | apply below_drew1 | refine below_set ?_ GE102.out) | exact HB.out)⟩⟩
    · rw [if_neg c4] at H
      have c4b0 : decide (a0_0 < 3) = false := decide_eq_false c4
      clear c4
      (first | rw [c4b0] | (simp only [i64_w, i32_w]; rw [c4b0]) | skip)
      have H' := Aside0.mk H
      clear H
      have hcz6_0 : w3.cell? ⟨gb102, 0, none⟩ = some (.int .i64 a0_0) := (blk_cell BK102.out 0).trans rfl
      have hcz6_1 : w3.cell? ⟨gb102, 1, none⟩ = some (.int .i64 a0_1) := (blk_cell BK102.out 1).trans rfl
      have hcz6_2 : w3.cell? ⟨gb102, 2, none⟩ = some (.int .u8 a0_2) := (blk_cell BK102.out 2).trans rfl
      have hcz6_3 : w3.cell? ⟨gb102, 3, none⟩ = some (.int .u16 a0_3) := (blk_cell BK102.out 3).trans rfl
      have hcz6_4 : w3.cell? ⟨gb102, 4, none⟩ = some (.int .u16 a0_4) := (blk_cell BK102.out 4).trans rfl
      have hcz6_5 : w3.cell? ⟨gb102, 5, none⟩ = some (.int .i64 a0_5) := (blk_cell BK102.out 5).trans rfl
      have hcz6_6 : w3.cell? ⟨gb102, 6, none⟩ = some (.int .i64 a0_6) := (blk_cell BK102.out 6).trans rfl
      have hcz6_7 : w3.cell? ⟨gb102, 7, none⟩ = some (.int .i64 a0_7) := (blk_cell BK102.out 7).trans rfl
      have hcz6_8 : w3.cell? ⟨gb102, 8, none⟩ = some (.int .i64 a0_8) := (blk_cell BK102.out 8).trans rfl
      have hcz6_9 : w3.cell? ⟨gb102, 9, none⟩ = some (.int .i64 a0_9) := (blk_cell BK102.out 9).trans rfl
      have hcz6_10 : w3.cell? ⟨gb102, 10, none⟩ = some (.int .i64 a0_10) := (blk_cell BK102.out 10).trans rfl
      have hcz6_11 : w3.cell? ⟨gb102, 11, none⟩ = some (.int .i64 a0_11) := (blk_cell BK102.out 11).trans rfl
      have hcz6_12 : w3.cell? ⟨gb102, 12, none⟩ = some (.int .i64 a0_12) := (blk_cell BK102.out 12).trans rfl
      have hcz6_13 : w3.cell? ⟨gb102, 13, none⟩ = some (.int .i64 a0_13) := (blk_cell BK102.out 13).trans rfl
      have hcz6_14 : w3.cell? ⟨gb102, 14, none⟩ = some (.int .i64 a0_14) := (blk_cell BK102.out 14).trans rfl
      have hcz6_15 : w3.cell? ⟨gb102, 15, none⟩ = some (.bool a0_15) := (blk_cell BK102.out 15).trans rfl
      have hfz6_0 := blk_frozen BK102.out 0
      have hfz6_1 := blk_frozen BK102.out 1
      have hfz6_2 := blk_frozen BK102.out 2
      have hfz6_3 := blk_frozen BK102.out 3
      have hfz6_4 := blk_frozen BK102.out 4
      have hfz6_5 := blk_frozen BK102.out 5
      have hfz6_6 := blk_frozen BK102.out 6
      have hfz6_7 := blk_frozen BK102.out 7
      have hfz6_8 := blk_frozen BK102.out 8
      have hfz6_9 := blk_frozen BK102.out 9
      have hfz6_10 := blk_frozen BK102.out 10
      have hfz6_11 := blk_frozen BK102.out 11
      have hfz6_12 := blk_frozen BK102.out 12
      have hfz6_13 := blk_frozen BK102.out 13
      have hfz6_14 := blk_frozen BK102.out 14
      have hfz6_15 := blk_frozen BK102.out 15
      go_wp2
      go_meet
      case rel => exact ⟨_, (decide (a0_0 > 16)), (by first | rfl | (simp; done) | (simp [*]; done)), H', ⟨by first | omega | exact Nat.le_refl _⟩, ⟨by (with_reducible repeat (first | refine blk_drewN ?_ _ | refine blk_drew ?_ | refine blk_alloc ?_ _)); exact BK102.out⟩, ⟨by repeat (first | (with_reducible first | exact HB.out | apply below_alloc | apply pw_below_drewN | apply below_drew1 | refine below_set ?_ GE102.out) | exact HB.out)⟩⟩
  case rest =>
    clear HC2
    try clear p2
    try clear c3
    try clear c4
    try clear c4b0
    try clear hcz5_0
    try clear hcz5_1
    try clear hcz5_10
    try clear hcz5_11
    try clear hcz5_12
    try clear hcz5_13
    try clear hcz5_14
    try clear hcz5_15
    try clear hcz5_2
    try clear hcz5_3
    try clear hcz5_4
    try clear hcz5_5
    try clear hcz5_6
    try clear hcz5_7
    try clear hcz5_8
    try clear hcz5_9
    try clear hcz6_0
    try clear hcz6_1
    try clear hcz6_10
    try clear hcz6_11
    try clear hcz6_12
    try clear hcz6_13
    try clear hcz6_14
    try clear hcz6_15
    try clear hcz6_2
    try clear hcz6_3
    try clear hcz6_4
    try clear hcz6_5
    try clear hcz6_6
    try clear hcz6_7
    try clear hcz6_8
    try clear hcz6_9
    try clear hfz5_0
    try clear hfz5_1
    try clear hfz5_10
    try clear hfz5_11
    try clear hfz5_12
    try clear hfz5_13
    try clear hfz5_14
    try clear hfz5_15
    try clear hfz5_2
    try clear hfz5_3
    try clear hfz5_4
    try clear hfz5_5
    try clear hfz5_6
    try clear hfz5_7
    try clear hfz5_8
    try clear hfz5_9
    try clear hfz6_0
    try clear hfz6_1
    try clear hfz6_10
    try clear hfz6_11
    try clear hfz6_12
    try clear hfz6_13
    try clear hfz6_14
    try clear hfz6_15
    try clear hfz6_2
    try clear hfz6_3
    try clear hfz6_4
    try clear hfz6_5
    try clear hfz6_6
    try clear hfz6_7
    try clear hfz6_8
    try clear hfz6_9
    obtain ⟨kq, x3_1, rfl, HA, HJ1, BK102, HB⟩ := hcut
    cases kq with
    | zero => exact absurd HA.out (by simp [plan_Plan_Check.j0])
    | succ kj1 =>
      have H := HA.out
      clear HA
      simp only [plan_Plan_Check.j0] at H
      by_cases c7 : x3_1 = true
      · subst c7
        have H1 : (some 4) = some r := by rw [if_pos rfl] at H; exact H
        clear H
        have H := H1
        clear H1
        obtain rfl := Option.some.inj H
        go_wp2
        go_ret
        exact ⟨by first | rfl | (simp [errW_none, errW_some] <;> rfl) | (simp [*, errW_none, errW_some] <;> rfl), by repeat (first | (with_reducible first | exact HB.out | apply below_alloc | apply pw_below_drewN | apply below_drew1 | refine below_set ?_ GE102.out) | exact HB.out)⟩
      · replace c7 := Bool.eq_false_iff.mpr c7
        subst c7
        have H1 : (if a0_1 < 0 then (plan_Plan_Check.j1 kj1 true a0_0 a0_1 a0_2 a0_3 a0_4 a0_5 a0_6 a0_7 a0_8 a0_9 a0_10 a0_11 a0_12 a0_13 a0_14 a0_15) else (if a0_1 ≥ a0_0 then (plan_Plan_Check.j1 kj1 true a0_0 a0_1 a0_2 a0_3 a0_4 a0_5 a0_6 a0_7 a0_8 a0_9 a0_10 a0_11 a0_12 a0_13 a0_14 a0_15) else (plan_Plan_Check.j1 kj1 (decide (a0_2 > 7)) a0_0 a0_1 a0_2 a0_3 a0_4 a0_5 a0_6 a0_7 a0_8 a0_9 a0_10 a0_11 a0_12 a0_13 a0_14 a0_15))) = some r := by rw [if_neg (show ¬ (false = true) by decide)] at H; exact H
        clear H
        have H := H1
        clear H1
        have HC8 := Aside0.mk H
        clear H
        go_upto_region 2 with (fail)
        go_cut [12] (fun v12 wc => ∃ (kq : Nat) (x12_7 : Bool), v12 = .bool x12_7 ∧ Aside0 (plan_Plan_Check.j1 kq x12_7 a0_0 a0_1 a0_2 a0_3 a0_4 a0_5 a0_6 a0_7 a0_8 a0_9 a0_10 a0_11 a0_12 a0_13 a0_14 a0_15 = some r) ∧ Aside0 (kq ≤ kj1) ∧ Aside0 (wc.heap[gb102]? = some (.cells #[.int .i64 a0_0, .int .i64 a0_1, .int .u8 a0_2, .int .u16 a0_3, .int .u16 a0_4, .int .i64 a0_5, .int .i64 a0_6, .int .i64 a0_7, .int .i64 a0_8, .int .i64 a0_9, .int .i64 a0_10, .int .i64 a0_11, .int .i64 a0_12, .int .i64 a0_13, .int .i64 a0_14, .bool a0_15] 24 (0, 0))) ∧ Aside0 (Below w.heap.size w wc))
        case first =>
          have H := HC8.out
          clear HC8
          by_cases c9 : a0_1 < 0
          · rw [if_pos c9] at H
            have c9b0 : decide (a0_1 < 0) = true := decide_eq_true c9
            clear c9
            (first | rw [c9b0] | (simp only [i64_w, i32_w]; rw [c9b0]) | skip)
            have H' := Aside0.mk H
            clear H
            have hcz10_0 : wc.cell? ⟨gb102, 0, none⟩ = some (.int .i64 a0_0) := (blk_cell BK102.out 0).trans rfl
            have hcz10_1 : wc.cell? ⟨gb102, 1, none⟩ = some (.int .i64 a0_1) := (blk_cell BK102.out 1).trans rfl
            have hcz10_2 : wc.cell? ⟨gb102, 2, none⟩ = some (.int .u8 a0_2) := (blk_cell BK102.out 2).trans rfl
            have hcz10_3 : wc.cell? ⟨gb102, 3, none⟩ = some (.int .u16 a0_3) := (blk_cell BK102.out 3).trans rfl
            have hcz10_4 : wc.cell? ⟨gb102, 4, none⟩ = some (.int .u16 a0_4) := (blk_cell BK102.out 4).trans rfl
            have hcz10_5 : wc.cell? ⟨gb102, 5, none⟩ = some (.int .i64 a0_5) := (blk_cell BK102.out 5).trans rfl
            have hcz10_6 : wc.cell? ⟨gb102, 6, none⟩ = some (.int .i64 a0_6) := (blk_cell BK102.out 6).trans rfl
            have hcz10_7 : wc.cell? ⟨gb102, 7, none⟩ = some (.int .i64 a0_7) := (blk_cell BK102.out 7).trans rfl
            have hcz10_8 : wc.cell? ⟨gb102, 8, none⟩ = some (.int .i64 a0_8) := (blk_cell BK102.out 8).trans rfl
            have hcz10_9 : wc.cell? ⟨gb102, 9, none⟩ = some (.int .i64 a0_9) := (blk_cell BK102.out 9).trans rfl
            have hcz10_10 : wc.cell? ⟨gb102, 10, none⟩ = some (.int .i64 a0_10) := (blk_cell BK102.out 10).trans rfl
            have hcz10_11 : wc.cell? ⟨gb102, 11, none⟩ = some (.int .i64 a0_11) := (blk_cell BK102.out 11).trans rfl
            have hcz10_12 : wc.cell? ⟨gb102, 12, none⟩ = some (.int .i64 a0_12) := (blk_cell BK102.out 12).trans rfl
            have hcz10_13 : wc.cell? ⟨gb102, 13, none⟩ = some (.int .i64 a0_13) := (blk_cell BK102.out 13).trans rfl
            have hcz10_14 : wc.cell? ⟨gb102, 14, none⟩ = some (.int .i64 a0_14) := (blk_cell BK102.out 14).trans rfl
            have hcz10_15 : wc.cell? ⟨gb102, 15, none⟩ = some (.bool a0_15) := (blk_cell BK102.out 15).trans rfl
            have hfz10_0 := blk_frozen BK102.out 0
            have hfz10_1 := blk_frozen BK102.out 1
            have hfz10_2 := blk_frozen BK102.out 2
            have hfz10_3 := blk_frozen BK102.out 3
            have hfz10_4 := blk_frozen BK102.out 4
            have hfz10_5 := blk_frozen BK102.out 5
            have hfz10_6 := blk_frozen BK102.out 6
            have hfz10_7 := blk_frozen BK102.out 7
            have hfz10_8 := blk_frozen BK102.out 8
            have hfz10_9 := blk_frozen BK102.out 9
            have hfz10_10 := blk_frozen BK102.out 10
            have hfz10_11 := blk_frozen BK102.out 11
            have hfz10_12 := blk_frozen BK102.out 12
            have hfz10_13 := blk_frozen BK102.out 13
            have hfz10_14 := blk_frozen BK102.out 14
            have hfz10_15 := blk_frozen BK102.out 15
            go_wp2
            go_meet
            case rel => exact ⟨_, (true), (by first | rfl | (simp; done) | (simp [*]; done)), H', ⟨by have := HJ1.out; first | omega | exact Nat.le_refl _⟩, ⟨by (with_reducible repeat (first | refine blk_drewN ?_ _ | refine blk_drew ?_ | refine blk_alloc ?_ _)); exact BK102.out⟩, ⟨by repeat (first | (with_reducible first | exact HB.out | apply below_alloc | apply pw_below_drewN | apply below_drew1 | refine below_set ?_ GE102.out) | exact HB.out)⟩⟩
          · rw [if_neg c9] at H
            have c9b0 : decide (a0_1 < 0) = false := decide_eq_false c9
            clear c9
            (first | rw [c9b0] | (simp only [i64_w, i32_w]; rw [c9b0]) | skip)
            by_cases c11 : a0_1 ≥ a0_0
            · rw [if_pos c11] at H
              have c11b0 : decide (a0_0 ≤ a0_1) = true := decide_eq_true c11
              clear c11
              have H' := Aside0.mk H
              clear H
              have hcz12_0 : wc.cell? ⟨gb102, 0, none⟩ = some (.int .i64 a0_0) := (blk_cell BK102.out 0).trans rfl
              have hcz12_1 : wc.cell? ⟨gb102, 1, none⟩ = some (.int .i64 a0_1) := (blk_cell BK102.out 1).trans rfl
              have hcz12_2 : wc.cell? ⟨gb102, 2, none⟩ = some (.int .u8 a0_2) := (blk_cell BK102.out 2).trans rfl
              have hcz12_3 : wc.cell? ⟨gb102, 3, none⟩ = some (.int .u16 a0_3) := (blk_cell BK102.out 3).trans rfl
              have hcz12_4 : wc.cell? ⟨gb102, 4, none⟩ = some (.int .u16 a0_4) := (blk_cell BK102.out 4).trans rfl
              have hcz12_5 : wc.cell? ⟨gb102, 5, none⟩ = some (.int .i64 a0_5) := (blk_cell BK102.out 5).trans rfl
              have hcz12_6 : wc.cell? ⟨gb102, 6, none⟩ = some (.int .i64 a0_6) := (blk_cell BK102.out 6).trans rfl
              have hcz12_7 : wc.cell? ⟨gb102, 7, none⟩ = some (.int .i64 a0_7) := (blk_cell BK102.out 7).trans rfl
              have hcz12_8 : wc.cell? ⟨gb102, 8, none⟩ = some (.int .i64 a0_8) := (blk_cell BK102.out 8).trans rfl
              have hcz12_9 : wc.cell? ⟨gb102, 9, none⟩ = some (.int .i64 a0_9) := (blk_cell BK102.out 9).trans rfl
              have hcz12_10 : wc.cell? ⟨gb102, 10, none⟩ = some (.int .i64 a0_10) := (blk_cell BK102.out 10).trans rfl
              have hcz12_11 : wc.cell? ⟨gb102, 11, none⟩ = some (.int .i64 a0_11) := (blk_cell BK102.out 11).trans rfl
              have hcz12_12 : wc.cell? ⟨gb102, 12, none⟩ = some (.int .i64 a0_12) := (blk_cell BK102.out 12).trans rfl
              have hcz12_13 : wc.cell? ⟨gb102, 13, none⟩ = some (.int .i64 a0_13) := (blk_cell BK102.out 13).trans rfl
              have hcz12_14 : wc.cell? ⟨gb102, 14, none⟩ = some (.int .i64 a0_14) := (blk_cell BK102.out 14).trans rfl
              have hcz12_15 : wc.cell? ⟨gb102, 15, none⟩ = some (.bool a0_15) := (blk_cell BK102.out 15).trans rfl
              have hfz12_0 := blk_frozen BK102.out 0
              have hfz12_1 := blk_frozen BK102.out 1
              have hfz12_2 := blk_frozen BK102.out 2
              have hfz12_3 := blk_frozen BK102.out 3
              have hfz12_4 := blk_frozen BK102.out 4
              have hfz12_5 := blk_frozen BK102.out 5
              have hfz12_6 := blk_frozen BK102.out 6
              have hfz12_7 := blk_frozen BK102.out 7
              have hfz12_8 := blk_frozen BK102.out 8
              have hfz12_9 := blk_frozen BK102.out 9
              have hfz12_10 := blk_frozen BK102.out 10
              have hfz12_11 := blk_frozen BK102.out 11
              have hfz12_12 := blk_frozen BK102.out 12
              have hfz12_13 := blk_frozen BK102.out 13
              have hfz12_14 := blk_frozen BK102.out 14
              have hfz12_15 := blk_frozen BK102.out 15
              go_wp2
              go_meet
              case rel => exact ⟨_, (true), (by first | rfl | (simp; done) | (simp [*]; done)), H', ⟨by have := HJ1.out; first | omega | exact Nat.le_refl _⟩, ⟨by (with_reducible repeat (first | refine blk_drewN ?_ _ | refine blk_drew ?_ | refine blk_alloc ?_ _)); exact BK102.out⟩, ⟨by repeat (first | (with_reducible first | exact HB.out | apply below_alloc | apply pw_below_drewN | apply below_drew1 | refine below_set ?_ GE102.out) | exact HB.out)⟩⟩
            · rw [if_neg c11] at H
              have c11b0 : decide (a0_0 ≤ a0_1) = false := decide_eq_false c11
              clear c11
              have H' := Aside0.mk H
              clear H
              have hcz13_0 : wc.cell? ⟨gb102, 0, none⟩ = some (.int .i64 a0_0) := (blk_cell BK102.out 0).trans rfl
              have hcz13_1 : wc.cell? ⟨gb102, 1, none⟩ = some (.int .i64 a0_1) := (blk_cell BK102.out 1).trans rfl
              have hcz13_2 : wc.cell? ⟨gb102, 2, none⟩ = some (.int .u8 a0_2) := (blk_cell BK102.out 2).trans rfl
              have hcz13_3 : wc.cell? ⟨gb102, 3, none⟩ = some (.int .u16 a0_3) := (blk_cell BK102.out 3).trans rfl
              have hcz13_4 : wc.cell? ⟨gb102, 4, none⟩ = some (.int .u16 a0_4) := (blk_cell BK102.out 4).trans rfl
              have hcz13_5 : wc.cell? ⟨gb102, 5, none⟩ = some (.int .i64 a0_5) := (blk_cell BK102.out 5).trans rfl
              have hcz13_6 : wc.cell? ⟨gb102, 6, none⟩ = some (.int .i64 a0_6) := (blk_cell BK102.out 6).trans rfl
              have hcz13_7 : wc.cell? ⟨gb102, 7, none⟩ = some (.int .i64 a0_7) := (blk_cell BK102.out 7).trans rfl
              have hcz13_8 : wc.cell? ⟨gb102, 8, none⟩ = some (.int .i64 a0_8) := (blk_cell BK102.out 8).trans rfl
              have hcz13_9 : wc.cell? ⟨gb102, 9, none⟩ = some (.int .i64 a0_9) := (blk_cell BK102.out 9).trans rfl
              have hcz13_10 : wc.cell? ⟨gb102, 10, none⟩ = some (.int .i64 a0_10) := (blk_cell BK102.out 10).trans rfl
              have hcz13_11 : wc.cell? ⟨gb102, 11, none⟩ = some (.int .i64 a0_11) := (blk_cell BK102.out 11).trans rfl
              have hcz13_12 : wc.cell? ⟨gb102, 12, none⟩ = some (.int .i64 a0_12) := (blk_cell BK102.out 12).trans rfl
              have hcz13_13 : wc.cell? ⟨gb102, 13, none⟩ = some (.int .i64 a0_13) := (blk_cell BK102.out 13).trans rfl
              have hcz13_14 : wc.cell? ⟨gb102, 14, none⟩ = some (.int .i64 a0_14) := (blk_cell BK102.out 14).trans rfl
              have hcz13_15 : wc.cell? ⟨gb102, 15, none⟩ = some (.bool a0_15) := (blk_cell BK102.out 15).trans rfl
              have hfz13_0 := blk_frozen BK102.out 0
              have hfz13_1 := blk_frozen BK102.out 1
              have hfz13_2 := blk_frozen BK102.out 2
              have hfz13_3 := blk_frozen BK102.out 3
              have hfz13_4 := blk_frozen BK102.out 4
              have hfz13_5 := blk_frozen BK102.out 5
              have hfz13_6 := blk_frozen BK102.out 6
              have hfz13_7 := blk_frozen BK102.out 7
              have hfz13_8 := blk_frozen BK102.out 8
              have hfz13_9 := blk_frozen BK102.out 9
              have hfz13_10 := blk_frozen BK102.out 10
              have hfz13_11 := blk_frozen BK102.out 11
              have hfz13_12 := blk_frozen BK102.out 12
              have hfz13_13 := blk_frozen BK102.out 13
              have hfz13_14 := blk_frozen BK102.out 14
              have hfz13_15 := blk_frozen BK102.out 15
              go_wp2
              go_meet
              case rel => exact ⟨_, (decide (a0_2 > 7)), (by first | rfl | (simp; done) | (simp [*]; done)), H', ⟨by have := HJ1.out; first | omega | exact Nat.le_refl _⟩, ⟨by (with_reducible repeat (first | refine blk_drewN ?_ _ | refine blk_drew ?_ | refine blk_alloc ?_ _)); exact BK102.out⟩, ⟨by repeat (first | (with_reducible first | exact HB.out | apply below_alloc | apply pw_below_drewN | apply below_drew1 | refine below_set ?_ GE102.out) | exact HB.out)⟩⟩
        case rest =>
          clear HC8
          try clear c1
          try clear p2
          try clear c3
          try clear c4
          try clear c4b0
          try clear c7
          try clear c9
          try clear c9b0
          try clear c11
          try clear c11b0
          try clear hcz10_0
          try clear hcz10_1
          try clear hcz10_10
          try clear hcz10_11
          try clear hcz10_12
          try clear hcz10_13
          try clear hcz10_14
          try clear hcz10_15
          try clear hcz10_2
          try clear hcz10_3
          try clear hcz10_4
          try clear hcz10_5
          try clear hcz10_6
          try clear hcz10_7
          try clear hcz10_8
          try clear hcz10_9
          try clear hcz12_0
          try clear hcz12_1
          try clear hcz12_10
          try clear hcz12_11
          try clear hcz12_12
          try clear hcz12_13
          try clear hcz12_14
          try clear hcz12_15
          try clear hcz12_2
          try clear hcz12_3
          try clear hcz12_4
          try clear hcz12_5
          try clear hcz12_6
          try clear hcz12_7
          try clear hcz12_8
          try clear hcz12_9
          try clear hcz13_0
          try clear hcz13_1
          try clear hcz13_10
          try clear hcz13_11
          try clear hcz13_12
          try clear hcz13_13
          try clear hcz13_14
          try clear hcz13_15
          try clear hcz13_2
          try clear hcz13_3
          try clear hcz13_4
          try clear hcz13_5
          try clear hcz13_6
          try clear hcz13_7
          try clear hcz13_8
          try clear hcz13_9
          try clear hcz5_0
          try clear hcz5_1
          try clear hcz5_10
          try clear hcz5_11
          try clear hcz5_12
          try clear hcz5_13
          try clear hcz5_14
          try clear hcz5_15
          try clear hcz5_2
          try clear hcz5_3
          try clear hcz5_4
          try clear hcz5_5
          try clear hcz5_6
          try clear hcz5_7
          try clear hcz5_8
          try clear hcz5_9
          try clear hcz6_0
          try clear hcz6_1
          try clear hcz6_10
          try clear hcz6_11
          try clear hcz6_12
          try clear hcz6_13
          try clear hcz6_14
          try clear hcz6_15
          try clear hcz6_2
          try clear hcz6_3
          try clear hcz6_4
          try clear hcz6_5
          try clear hcz6_6
          try clear hcz6_7
          try clear hcz6_8
          try clear hcz6_9
          try clear hfz10_0
          try clear hfz10_1
          try clear hfz10_10
          try clear hfz10_11
          try clear hfz10_12
          try clear hfz10_13
          try clear hfz10_14
          try clear hfz10_15
          try clear hfz10_2
          try clear hfz10_3
          try clear hfz10_4
          try clear hfz10_5
          try clear hfz10_6
          try clear hfz10_7
          try clear hfz10_8
          try clear hfz10_9
          try clear hfz12_0
          try clear hfz12_1
          try clear hfz12_10
          try clear hfz12_11
          try clear hfz12_12
          try clear hfz12_13
          try clear hfz12_14
          try clear hfz12_15
          try clear hfz12_2
          try clear hfz12_3
          try clear hfz12_4
          try clear hfz12_5
          try clear hfz12_6
          try clear hfz12_7
          try clear hfz12_8
          try clear hfz12_9
          try clear hfz13_0
          try clear hfz13_1
          try clear hfz13_10
          try clear hfz13_11
          try clear hfz13_12
          try clear hfz13_13
          try clear hfz13_14
          try clear hfz13_15
          try clear hfz13_2
          try clear hfz13_3
          try clear hfz13_4
          try clear hfz13_5
          try clear hfz13_6
          try clear hfz13_7
          try clear hfz13_8
          try clear hfz13_9
          try clear hfz5_0
          try clear hfz5_1
          try clear hfz5_10
          try clear hfz5_11
          try clear hfz5_12
          try clear hfz5_13
          try clear hfz5_14
          try clear hfz5_15
          try clear hfz5_2
          try clear hfz5_3
          try clear hfz5_4
          try clear hfz5_5
          try clear hfz5_6
          try clear hfz5_7
          try clear hfz5_8
          try clear hfz5_9
          try clear hfz6_0
          try clear hfz6_1
          try clear hfz6_10
          try clear hfz6_11
          try clear hfz6_12
          try clear hfz6_13
          try clear hfz6_14
          try clear hfz6_15
          try clear hfz6_2
          try clear hfz6_3
          try clear hfz6_4
          try clear hfz6_5
          try clear hfz6_6
          try clear hfz6_7
          try clear hfz6_8
          try clear hfz6_9
          try clear p2
          obtain ⟨kq, x12_7, rfl, HA, HJ7, BK102, HB⟩ := hcut
          cases kq with
          | zero => exact absurd HA.out (by simp [plan_Plan_Check.j1])
          | succ kj7 =>
            have H := HA.out
            clear HA
            simp only [plan_Plan_Check.j1] at H
            by_cases c14 : x12_7 = true
            · subst c14
              have H1 : (some 4) = some r := by rw [if_pos rfl] at H; exact H
              clear H
              have H := H1
              clear H1
              obtain rfl := Option.some.inj H
              go_wp2
              go_ret
              exact ⟨by first | rfl | (simp [errW_none, errW_some] <;> rfl) | (simp [*, errW_none, errW_some] <;> rfl), by repeat (first | (with_reducible first | exact HB.out | apply below_alloc | apply pw_below_drewN | apply below_drew1 | refine below_set ?_ GE102.out) | exact HB.out)⟩
            · replace c14 := Bool.eq_false_iff.mpr c14
              subst c14
              have H1 : ((plan_vlan.f a0_3).bind fun t103 => (if t103 = true then ((plan_vlan.f a0_4).bind fun t104 => (if t104 = true then (plan_Plan_Check.j2 kj7 (a0_3 == a0_4) a0_0 a0_1 a0_2 a0_3 a0_4 a0_5 a0_6 a0_7 a0_8 a0_9 a0_10 a0_11 a0_12 a0_13 a0_14 a0_15) else (plan_Plan_Check.j2 kj7 true a0_0 a0_1 a0_2 a0_3 a0_4 a0_5 a0_6 a0_7 a0_8 a0_9 a0_10 a0_11 a0_12 a0_13 a0_14 a0_15))) else (plan_Plan_Check.j2 kj7 true a0_0 a0_1 a0_2 a0_3 a0_4 a0_5 a0_6 a0_7 a0_8 a0_9 a0_10 a0_11 a0_12 a0_13 a0_14 a0_15))) = some r := by rw [if_neg (show ¬ (false = true) by decide)] at H; exact H
              clear H
              have H := H1
              clear H1
              have HC15 := Aside0.mk H
              clear H
              go_upto_region 3 with (fail)
              go_cut [28] (fun v28 wc => ∃ (kq : Nat) (x28_14 : Bool), v28 = .bool x28_14 ∧ Aside0 (plan_Plan_Check.j2 kq x28_14 a0_0 a0_1 a0_2 a0_3 a0_4 a0_5 a0_6 a0_7 a0_8 a0_9 a0_10 a0_11 a0_12 a0_13 a0_14 a0_15 = some r) ∧ Aside0 (kq ≤ kj7) ∧ Aside0 (wc.heap[gb102]? = some (.cells #[.int .i64 a0_0, .int .i64 a0_1, .int .u8 a0_2, .int .u16 a0_3, .int .u16 a0_4, .int .i64 a0_5, .int .i64 a0_6, .int .i64 a0_7, .int .i64 a0_8, .int .i64 a0_9, .int .i64 a0_10, .int .i64 a0_11, .int .i64 a0_12, .int .i64 a0_13, .int .i64 a0_14, .bool a0_15] 24 (0, 0))) ∧ Aside0 (Below w.heap.size w wc))
              case first =>
                have H := HC15.out
                clear HC15
                replace H := Option.bind_eq_some_iff.mp H
                obtain ⟨t103, A160, H⟩ := H
                replace H : (if t103 = true then ((plan_vlan.f a0_4).bind fun t104 => (if t104 = true then (plan_Plan_Check.j2 kj7 (a0_3 == a0_4) a0_0 a0_1 a0_2 a0_3 a0_4 a0_5 a0_6 a0_7 a0_8 a0_9 a0_10 a0_11 a0_12 a0_13 a0_14 a0_15) else (plan_Plan_Check.j2 kj7 true a0_0 a0_1 a0_2 a0_3 a0_4 a0_5 a0_6 a0_7 a0_8 a0_9 a0_10 a0_11 a0_12 a0_13 a0_14 a0_15))) else (plan_Plan_Check.j2 kj7 true a0_0 a0_1 a0_2 a0_3 a0_4 a0_5 a0_6 a0_7 a0_8 a0_9 a0_10 a0_11 a0_12 a0_13 a0_14 a0_15)) = some r := H
                have A16 := Aside0.mk A160
                clear A160
                by_cases c17 : t103 = true
                · subst c17
                  have H1 : ((plan_vlan.f a0_4).bind fun t104 => (if t104 = true then (plan_Plan_Check.j2 kj7 (a0_3 == a0_4) a0_0 a0_1 a0_2 a0_3 a0_4 a0_5 a0_6 a0_7 a0_8 a0_9 a0_10 a0_11 a0_12 a0_13 a0_14 a0_15) else (plan_Plan_Check.j2 kj7 true a0_0 a0_1 a0_2 a0_3 a0_4 a0_5 a0_6 a0_7 a0_8 a0_9 a0_10 a0_11 a0_12 a0_13 a0_14 a0_15))) = some r := by rw [if_pos rfl] at H; exact H
                  clear H
                  have H := H1
                  clear H1
                  replace H := Option.bind_eq_some_iff.mp H
                  obtain ⟨t104, A180, H⟩ := H
                  replace H : (if t104 = true then (plan_Plan_Check.j2 kj7 (a0_3 == a0_4) a0_0 a0_1 a0_2 a0_3 a0_4 a0_5 a0_6 a0_7 a0_8 a0_9 a0_10 a0_11 a0_12 a0_13 a0_14 a0_15) else (plan_Plan_Check.j2 kj7 true a0_0 a0_1 a0_2 a0_3 a0_4 a0_5 a0_6 a0_7 a0_8 a0_9 a0_10 a0_11 a0_12 a0_13 a0_14 a0_15)) = some r := H
                  have A18 := Aside0.mk A180
                  clear A180
                  by_cases c19 : t104 = true
                  · subst c19
                    have H1 : (plan_Plan_Check.j2 kj7 (a0_3 == a0_4) a0_0 a0_1 a0_2 a0_3 a0_4 a0_5 a0_6 a0_7 a0_8 a0_9 a0_10 a0_11 a0_12 a0_13 a0_14 a0_15) = some r := by rw [if_pos rfl] at H; exact H
                    clear H
                    have H := H1
                    clear H1
                    have H' := Aside0.mk H
                    clear H
                    have hcz20_0 : wc.cell? ⟨gb102, 0, none⟩ = some (.int .i64 a0_0) := (blk_cell BK102.out 0).trans rfl
                    have hcz20_1 : wc.cell? ⟨gb102, 1, none⟩ = some (.int .i64 a0_1) := (blk_cell BK102.out 1).trans rfl
                    have hcz20_2 : wc.cell? ⟨gb102, 2, none⟩ = some (.int .u8 a0_2) := (blk_cell BK102.out 2).trans rfl
                    have hcz20_3 : wc.cell? ⟨gb102, 3, none⟩ = some (.int .u16 a0_3) := (blk_cell BK102.out 3).trans rfl
                    have hcz20_4 : wc.cell? ⟨gb102, 4, none⟩ = some (.int .u16 a0_4) := (blk_cell BK102.out 4).trans rfl
                    have hcz20_5 : wc.cell? ⟨gb102, 5, none⟩ = some (.int .i64 a0_5) := (blk_cell BK102.out 5).trans rfl
                    have hcz20_6 : wc.cell? ⟨gb102, 6, none⟩ = some (.int .i64 a0_6) := (blk_cell BK102.out 6).trans rfl
                    have hcz20_7 : wc.cell? ⟨gb102, 7, none⟩ = some (.int .i64 a0_7) := (blk_cell BK102.out 7).trans rfl
                    have hcz20_8 : wc.cell? ⟨gb102, 8, none⟩ = some (.int .i64 a0_8) := (blk_cell BK102.out 8).trans rfl
                    have hcz20_9 : wc.cell? ⟨gb102, 9, none⟩ = some (.int .i64 a0_9) := (blk_cell BK102.out 9).trans rfl
                    have hcz20_10 : wc.cell? ⟨gb102, 10, none⟩ = some (.int .i64 a0_10) := (blk_cell BK102.out 10).trans rfl
                    have hcz20_11 : wc.cell? ⟨gb102, 11, none⟩ = some (.int .i64 a0_11) := (blk_cell BK102.out 11).trans rfl
                    have hcz20_12 : wc.cell? ⟨gb102, 12, none⟩ = some (.int .i64 a0_12) := (blk_cell BK102.out 12).trans rfl
                    have hcz20_13 : wc.cell? ⟨gb102, 13, none⟩ = some (.int .i64 a0_13) := (blk_cell BK102.out 13).trans rfl
                    have hcz20_14 : wc.cell? ⟨gb102, 14, none⟩ = some (.int .i64 a0_14) := (blk_cell BK102.out 14).trans rfl
                    have hcz20_15 : wc.cell? ⟨gb102, 15, none⟩ = some (.bool a0_15) := (blk_cell BK102.out 15).trans rfl
                    have hfz20_0 := blk_frozen BK102.out 0
                    have hfz20_1 := blk_frozen BK102.out 1
                    have hfz20_2 := blk_frozen BK102.out 2
                    have hfz20_3 := blk_frozen BK102.out 3
                    have hfz20_4 := blk_frozen BK102.out 4
                    have hfz20_5 := blk_frozen BK102.out 5
                    have hfz20_6 := blk_frozen BK102.out 6
                    have hfz20_7 := blk_frozen BK102.out 7
                    have hfz20_8 := blk_frozen BK102.out 8
                    have hfz20_9 := blk_frozen BK102.out 9
                    have hfz20_10 := blk_frozen BK102.out 10
                    have hfz20_11 := blk_frozen BK102.out 11
                    have hfz20_12 := blk_frozen BK102.out 12
                    have hfz20_13 := blk_frozen BK102.out 13
                    have hfz20_14 := blk_frozen BK102.out 14
                    have hfz20_15 := blk_frozen BK102.out 15
                    go_wp2_with (first | ((with_reducible refine gate_callee (f := 48) rfl ?_); refine goesL_ (some 31) rfl rfl Try.func48 (by kernel_rfl) rfl #[.int .u16 a0_3] rfl (by (try simp only [List.map_toArray, List.map_cons, List.map_nil]); first | done | rfl | (simp only [List.length_drop, List.length_take]; rfl)) ?_; (with_reducible refine (plan_vlan.calls a0_3 true _ A16.out).mono ?_); rintro e w' ⟨rfl, ⟨nd, rfl⟩⟩; refine ⟨_, rfl, ?_⟩) | (go_at_call 48; (with_reducible refine (plan_vlan.calls a0_4 true _ A18.out).mono ?_); rintro e w' ⟨rfl, ⟨nd, rfl⟩⟩))
                    go_meet
                    case rel => exact ⟨_, ((a0_3 == a0_4)), (by first | rfl | (simp; done) | (simp [*]; done)), H', ⟨by have := HJ1.out; have := HJ7.out; first | omega | exact Nat.le_refl _⟩, ⟨by (with_reducible repeat (first | refine blk_drewN ?_ _ | refine blk_drew ?_ | refine blk_alloc ?_ _)); exact BK102.out⟩, ⟨by repeat (first | (with_reducible first | exact HB.out | apply below_alloc | apply pw_below_drewN | apply below_drew1 | refine below_set ?_ GE102.out) | exact HB.out)⟩⟩
                  · replace c19 := Bool.eq_false_iff.mpr c19
                    subst c19
                    have H1 : (plan_Plan_Check.j2 kj7 true a0_0 a0_1 a0_2 a0_3 a0_4 a0_5 a0_6 a0_7 a0_8 a0_9 a0_10 a0_11 a0_12 a0_13 a0_14 a0_15) = some r := by rw [if_neg (show ¬ (false = true) by decide)] at H; exact H
                    clear H
                    have H := H1
                    clear H1
                    have H' := Aside0.mk H
                    clear H
                    have hcz21_0 : wc.cell? ⟨gb102, 0, none⟩ = some (.int .i64 a0_0) := (blk_cell BK102.out 0).trans rfl
                    have hcz21_1 : wc.cell? ⟨gb102, 1, none⟩ = some (.int .i64 a0_1) := (blk_cell BK102.out 1).trans rfl
                    have hcz21_2 : wc.cell? ⟨gb102, 2, none⟩ = some (.int .u8 a0_2) := (blk_cell BK102.out 2).trans rfl
                    have hcz21_3 : wc.cell? ⟨gb102, 3, none⟩ = some (.int .u16 a0_3) := (blk_cell BK102.out 3).trans rfl
                    have hcz21_4 : wc.cell? ⟨gb102, 4, none⟩ = some (.int .u16 a0_4) := (blk_cell BK102.out 4).trans rfl
                    have hcz21_5 : wc.cell? ⟨gb102, 5, none⟩ = some (.int .i64 a0_5) := (blk_cell BK102.out 5).trans rfl
                    have hcz21_6 : wc.cell? ⟨gb102, 6, none⟩ = some (.int .i64 a0_6) := (blk_cell BK102.out 6).trans rfl
                    have hcz21_7 : wc.cell? ⟨gb102, 7, none⟩ = some (.int .i64 a0_7) := (blk_cell BK102.out 7).trans rfl
                    have hcz21_8 : wc.cell? ⟨gb102, 8, none⟩ = some (.int .i64 a0_8) := (blk_cell BK102.out 8).trans rfl
                    have hcz21_9 : wc.cell? ⟨gb102, 9, none⟩ = some (.int .i64 a0_9) := (blk_cell BK102.out 9).trans rfl
                    have hcz21_10 : wc.cell? ⟨gb102, 10, none⟩ = some (.int .i64 a0_10) := (blk_cell BK102.out 10).trans rfl
                    have hcz21_11 : wc.cell? ⟨gb102, 11, none⟩ = some (.int .i64 a0_11) := (blk_cell BK102.out 11).trans rfl
                    have hcz21_12 : wc.cell? ⟨gb102, 12, none⟩ = some (.int .i64 a0_12) := (blk_cell BK102.out 12).trans rfl
                    have hcz21_13 : wc.cell? ⟨gb102, 13, none⟩ = some (.int .i64 a0_13) := (blk_cell BK102.out 13).trans rfl
                    have hcz21_14 : wc.cell? ⟨gb102, 14, none⟩ = some (.int .i64 a0_14) := (blk_cell BK102.out 14).trans rfl
                    have hcz21_15 : wc.cell? ⟨gb102, 15, none⟩ = some (.bool a0_15) := (blk_cell BK102.out 15).trans rfl
                    have hfz21_0 := blk_frozen BK102.out 0
                    have hfz21_1 := blk_frozen BK102.out 1
                    have hfz21_2 := blk_frozen BK102.out 2
                    have hfz21_3 := blk_frozen BK102.out 3
                    have hfz21_4 := blk_frozen BK102.out 4
                    have hfz21_5 := blk_frozen BK102.out 5
                    have hfz21_6 := blk_frozen BK102.out 6
                    have hfz21_7 := blk_frozen BK102.out 7
                    have hfz21_8 := blk_frozen BK102.out 8
                    have hfz21_9 := blk_frozen BK102.out 9
                    have hfz21_10 := blk_frozen BK102.out 10
                    have hfz21_11 := blk_frozen BK102.out 11
                    have hfz21_12 := blk_frozen BK102.out 12
                    have hfz21_13 := blk_frozen BK102.out 13
                    have hfz21_14 := blk_frozen BK102.out 14
                    have hfz21_15 := blk_frozen BK102.out 15
                    go_wp2_with (first | ((with_reducible refine gate_callee (f := 48) rfl ?_); refine goesL_ (some 31) rfl rfl Try.func48 (by kernel_rfl) rfl #[.int .u16 a0_3] rfl (by (try simp only [List.map_toArray, List.map_cons, List.map_nil]); first | done | rfl | (simp only [List.length_drop, List.length_take]; rfl)) ?_; (with_reducible refine (plan_vlan.calls a0_3 true _ A16.out).mono ?_); rintro e w' ⟨rfl, ⟨nd, rfl⟩⟩; refine ⟨_, rfl, ?_⟩) | (go_at_call 48; (with_reducible refine (plan_vlan.calls a0_4 false _ A18.out).mono ?_); rintro e w' ⟨rfl, ⟨nd, rfl⟩⟩))
                    go_meet
                    case rel => exact ⟨_, (true), (by first | rfl | (simp; done) | (simp [*]; done)), H', ⟨by have := HJ1.out; have := HJ7.out; first | omega | exact Nat.le_refl _⟩, ⟨by (with_reducible repeat (first | refine blk_drewN ?_ _ | refine blk_drew ?_ | refine blk_alloc ?_ _)); exact BK102.out⟩, ⟨by repeat (first | (with_reducible first | exact HB.out | apply below_alloc | apply pw_below_drewN | apply below_drew1 | refine below_set ?_ GE102.out) | exact HB.out)⟩⟩
                · replace c17 := Bool.eq_false_iff.mpr c17
                  subst c17
                  have H1 : (plan_Plan_Check.j2 kj7 true a0_0 a0_1 a0_2 a0_3 a0_4 a0_5 a0_6 a0_7 a0_8 a0_9 a0_10 a0_11 a0_12 a0_13 a0_14 a0_15) = some r := by rw [if_neg (show ¬ (false = true) by decide)] at H; exact H
                  clear H
                  have H := H1
                  clear H1
                  have H' := Aside0.mk H
                  clear H
                  have hcz22_0 : wc.cell? ⟨gb102, 0, none⟩ = some (.int .i64 a0_0) := (blk_cell BK102.out 0).trans rfl
                  have hcz22_1 : wc.cell? ⟨gb102, 1, none⟩ = some (.int .i64 a0_1) := (blk_cell BK102.out 1).trans rfl
                  have hcz22_2 : wc.cell? ⟨gb102, 2, none⟩ = some (.int .u8 a0_2) := (blk_cell BK102.out 2).trans rfl
                  have hcz22_3 : wc.cell? ⟨gb102, 3, none⟩ = some (.int .u16 a0_3) := (blk_cell BK102.out 3).trans rfl
                  have hcz22_4 : wc.cell? ⟨gb102, 4, none⟩ = some (.int .u16 a0_4) := (blk_cell BK102.out 4).trans rfl
                  have hcz22_5 : wc.cell? ⟨gb102, 5, none⟩ = some (.int .i64 a0_5) := (blk_cell BK102.out 5).trans rfl
                  have hcz22_6 : wc.cell? ⟨gb102, 6, none⟩ = some (.int .i64 a0_6) := (blk_cell BK102.out 6).trans rfl
                  have hcz22_7 : wc.cell? ⟨gb102, 7, none⟩ = some (.int .i64 a0_7) := (blk_cell BK102.out 7).trans rfl
                  have hcz22_8 : wc.cell? ⟨gb102, 8, none⟩ = some (.int .i64 a0_8) := (blk_cell BK102.out 8).trans rfl
                  have hcz22_9 : wc.cell? ⟨gb102, 9, none⟩ = some (.int .i64 a0_9) := (blk_cell BK102.out 9).trans rfl
                  have hcz22_10 : wc.cell? ⟨gb102, 10, none⟩ = some (.int .i64 a0_10) := (blk_cell BK102.out 10).trans rfl
                  have hcz22_11 : wc.cell? ⟨gb102, 11, none⟩ = some (.int .i64 a0_11) := (blk_cell BK102.out 11).trans rfl
                  have hcz22_12 : wc.cell? ⟨gb102, 12, none⟩ = some (.int .i64 a0_12) := (blk_cell BK102.out 12).trans rfl
                  have hcz22_13 : wc.cell? ⟨gb102, 13, none⟩ = some (.int .i64 a0_13) := (blk_cell BK102.out 13).trans rfl
                  have hcz22_14 : wc.cell? ⟨gb102, 14, none⟩ = some (.int .i64 a0_14) := (blk_cell BK102.out 14).trans rfl
                  have hcz22_15 : wc.cell? ⟨gb102, 15, none⟩ = some (.bool a0_15) := (blk_cell BK102.out 15).trans rfl
                  have hfz22_0 := blk_frozen BK102.out 0
                  have hfz22_1 := blk_frozen BK102.out 1
                  have hfz22_2 := blk_frozen BK102.out 2
                  have hfz22_3 := blk_frozen BK102.out 3
                  have hfz22_4 := blk_frozen BK102.out 4
                  have hfz22_5 := blk_frozen BK102.out 5
                  have hfz22_6 := blk_frozen BK102.out 6
                  have hfz22_7 := blk_frozen BK102.out 7
                  have hfz22_8 := blk_frozen BK102.out 8
                  have hfz22_9 := blk_frozen BK102.out 9
                  have hfz22_10 := blk_frozen BK102.out 10
                  have hfz22_11 := blk_frozen BK102.out 11
                  have hfz22_12 := blk_frozen BK102.out 12
                  have hfz22_13 := blk_frozen BK102.out 13
                  have hfz22_14 := blk_frozen BK102.out 14
                  have hfz22_15 := blk_frozen BK102.out 15
                  go_wp2_with (first | ((with_reducible refine gate_callee (f := 48) rfl ?_); refine goesL_ (some 31) rfl rfl Try.func48 (by kernel_rfl) rfl #[.int .u16 a0_3] rfl (by (try simp only [List.map_toArray, List.map_cons, List.map_nil]); first | done | rfl | (simp only [List.length_drop, List.length_take]; rfl)) ?_; (with_reducible refine (plan_vlan.calls a0_3 false _ A16.out).mono ?_); rintro e w' ⟨rfl, ⟨nd, rfl⟩⟩; refine ⟨_, rfl, ?_⟩))
                  go_meet
                  case rel => exact ⟨_, (true), (by first | rfl | (simp; done) | (simp [*]; done)), H', ⟨by have := HJ1.out; have := HJ7.out; first | omega | exact Nat.le_refl _⟩, ⟨by (with_reducible repeat (first | refine blk_drewN ?_ _ | refine blk_drew ?_ | refine blk_alloc ?_ _)); exact BK102.out⟩, ⟨by repeat (first | (with_reducible first | exact HB.out | apply below_alloc | apply pw_below_drewN | apply below_drew1 | refine below_set ?_ GE102.out) | exact HB.out)⟩⟩
              case rest =>
                clear HC15
                try clear c1
                try clear p2
                try clear c3
                try clear c4
                try clear c4b0
                try clear c7
                try clear c9
                try clear c9b0
                try clear c11
                try clear c11b0
                try clear c14
                try clear c17
                try clear c19
                try clear hcz10_0
                try clear hcz10_1
                try clear hcz10_10
                try clear hcz10_11
                try clear hcz10_12
                try clear hcz10_13
                try clear hcz10_14
                try clear hcz10_15
                try clear hcz10_2
                try clear hcz10_3
                try clear hcz10_4
                try clear hcz10_5
                try clear hcz10_6
                try clear hcz10_7
                try clear hcz10_8
                try clear hcz10_9
                try clear hcz12_0
                try clear hcz12_1
                try clear hcz12_10
                try clear hcz12_11
                try clear hcz12_12
                try clear hcz12_13
                try clear hcz12_14
                try clear hcz12_15
                try clear hcz12_2
                try clear hcz12_3
                try clear hcz12_4
                try clear hcz12_5
                try clear hcz12_6
                try clear hcz12_7
                try clear hcz12_8
                try clear hcz12_9
                try clear hcz13_0
                try clear hcz13_1
                try clear hcz13_10
                try clear hcz13_11
                try clear hcz13_12
                try clear hcz13_13
                try clear hcz13_14
                try clear hcz13_15
                try clear hcz13_2
                try clear hcz13_3
                try clear hcz13_4
                try clear hcz13_5
                try clear hcz13_6
                try clear hcz13_7
                try clear hcz13_8
                try clear hcz13_9
                try clear hcz20_0
                try clear hcz20_1
                try clear hcz20_10
                try clear hcz20_11
                try clear hcz20_12
                try clear hcz20_13
                try clear hcz20_14
                try clear hcz20_15
                try clear hcz20_2
                try clear hcz20_3
                try clear hcz20_4
                try clear hcz20_5
                try clear hcz20_6
                try clear hcz20_7
                try clear hcz20_8
                try clear hcz20_9
                try clear hcz21_0
                try clear hcz21_1
                try clear hcz21_10
                try clear hcz21_11
                try clear hcz21_12
                try clear hcz21_13
                try clear hcz21_14
                try clear hcz21_15
                try clear hcz21_2
                try clear hcz21_3
                try clear hcz21_4
                try clear hcz21_5
                try clear hcz21_6
                try clear hcz21_7
                try clear hcz21_8
                try clear hcz21_9
                try clear hcz22_0
                try clear hcz22_1
                try clear hcz22_10
                try clear hcz22_11
                try clear hcz22_12
                try clear hcz22_13
                try clear hcz22_14
                try clear hcz22_15
                try clear hcz22_2
                try clear hcz22_3
                try clear hcz22_4
                try clear hcz22_5
                try clear hcz22_6
                try clear hcz22_7
                try clear hcz22_8
                try clear hcz22_9
                try clear hcz5_0
                try clear hcz5_1
                try clear hcz5_10
                try clear hcz5_11
                try clear hcz5_12
                try clear hcz5_13
                try clear hcz5_14
                try clear hcz5_15
                try clear hcz5_2
                try clear hcz5_3
                try clear hcz5_4
                try clear hcz5_5
                try clear hcz5_6
                try clear hcz5_7
                try clear hcz5_8
                try clear hcz5_9
                try clear hcz6_0
                try clear hcz6_1
                try clear hcz6_10
                try clear hcz6_11
                try clear hcz6_12
                try clear hcz6_13
                try clear hcz6_14
                try clear hcz6_15
                try clear hcz6_2
                try clear hcz6_3
                try clear hcz6_4
                try clear hcz6_5
                try clear hcz6_6
                try clear hcz6_7
                try clear hcz6_8
                try clear hcz6_9
                try clear hfz10_0
                try clear hfz10_1
                try clear hfz10_10
                try clear hfz10_11
                try clear hfz10_12
                try clear hfz10_13
                try clear hfz10_14
                try clear hfz10_15
                try clear hfz10_2
                try clear hfz10_3
                try clear hfz10_4
                try clear hfz10_5
                try clear hfz10_6
                try clear hfz10_7
                try clear hfz10_8
                try clear hfz10_9
                try clear hfz12_0
                try clear hfz12_1
                try clear hfz12_10
                try clear hfz12_11
                try clear hfz12_12
                try clear hfz12_13
                try clear hfz12_14
                try clear hfz12_15
                try clear hfz12_2
                try clear hfz12_3
                try clear hfz12_4
                try clear hfz12_5
                try clear hfz12_6
                try clear hfz12_7
                try clear hfz12_8
                try clear hfz12_9
                try clear hfz13_0
                try clear hfz13_1
                try clear hfz13_10
                try clear hfz13_11
                try clear hfz13_12
                try clear hfz13_13
                try clear hfz13_14
                try clear hfz13_15
                try clear hfz13_2
                try clear hfz13_3
                try clear hfz13_4
                try clear hfz13_5
                try clear hfz13_6
                try clear hfz13_7
                try clear hfz13_8
                try clear hfz13_9
                try clear hfz20_0
                try clear hfz20_1
                try clear hfz20_10
                try clear hfz20_11
                try clear hfz20_12
                try clear hfz20_13
                try clear hfz20_14
                try clear hfz20_15
                try clear hfz20_2
                try clear hfz20_3
                try clear hfz20_4
                try clear hfz20_5
                try clear hfz20_6
                try clear hfz20_7
                try clear hfz20_8
                try clear hfz20_9
                try clear hfz21_0
                try clear hfz21_1
                try clear hfz21_10
                try clear hfz21_11
                try clear hfz21_12
                try clear hfz21_13
                try clear hfz21_14
                try clear hfz21_15
                try clear hfz21_2
                try clear hfz21_3
                try clear hfz21_4
                try clear hfz21_5
                try clear hfz21_6
                try clear hfz21_7
                try clear hfz21_8
                try clear hfz21_9
                try clear hfz22_0
                try clear hfz22_1
                try clear hfz22_10
                try clear hfz22_11
                try clear hfz22_12
                try clear hfz22_13
                try clear hfz22_14
                try clear hfz22_15
                try clear hfz22_2
                try clear hfz22_3
                try clear hfz22_4
                try clear hfz22_5
                try clear hfz22_6
                try clear hfz22_7
                try clear hfz22_8
                try clear hfz22_9
                try clear hfz5_0
                try clear hfz5_1
                try clear hfz5_10
                try clear hfz5_11
                try clear hfz5_12
                try clear hfz5_13
                try clear hfz5_14
                try clear hfz5_15
                try clear hfz5_2
                try clear hfz5_3
                try clear hfz5_4
                try clear hfz5_5
                try clear hfz5_6
                try clear hfz5_7
                try clear hfz5_8
                try clear hfz5_9
                try clear hfz6_0
                try clear hfz6_1
                try clear hfz6_10
                try clear hfz6_11
                try clear hfz6_12
                try clear hfz6_13
                try clear hfz6_14
                try clear hfz6_15
                try clear hfz6_2
                try clear hfz6_3
                try clear hfz6_4
                try clear hfz6_5
                try clear hfz6_6
                try clear hfz6_7
                try clear hfz6_8
                try clear hfz6_9
                try clear p2
                obtain ⟨kq, x28_14, rfl, HA, HJ14, BK102, HB⟩ := hcut
                cases kq with
                | zero => exact absurd HA.out (by simp [plan_Plan_Check.j2])
                | succ kj14 =>
                  have H := HA.out
                  clear HA
                  simp only [plan_Plan_Check.j2] at H
                  by_cases c23 : x28_14 = true
                  · subst c23
                    have H1 : (some 5) = some r := by rw [if_pos rfl] at H; exact H
                    clear H
                    have H := H1
                    clear H1
                    obtain rfl := Option.some.inj H
                    go_wp2
                    go_ret
                    exact ⟨by first | rfl | (simp [errW_none, errW_some] <;> rfl) | (simp [*, errW_none, errW_some] <;> rfl), by repeat (first | (with_reducible first | exact HB.out | apply below_alloc | apply pw_below_drewN | apply below_drew1 | refine below_set ?_ GE102.out) | exact HB.out)⟩
                  · replace c23 := Bool.eq_false_iff.mpr c23
                    subst c23
                    have H1 : ((plan_lengths.f kj14 (([a0_5, a0_7, a0_8, a0_9, a0_10, a0_11, a0_12] : List Int))).bind fun t108 => (if t108 = true then (if a0_6 < 0 then (plan_Plan_Check.j3 kj14 true a0_0 a0_1 a0_2 a0_3 a0_4 a0_5 a0_6 a0_7 a0_8 a0_9 a0_10 a0_11 a0_12 a0_13 a0_14 a0_15) else (plan_Plan_Check.j3 kj14 (decide (a0_6 > 1048576)) a0_0 a0_1 a0_2 a0_3 a0_4 a0_5 a0_6 a0_7 a0_8 a0_9 a0_10 a0_11 a0_12 a0_13 a0_14 a0_15)) else (plan_Plan_Check.j3 kj14 true a0_0 a0_1 a0_2 a0_3 a0_4 a0_5 a0_6 a0_7 a0_8 a0_9 a0_10 a0_11 a0_12 a0_13 a0_14 a0_15))) = some r := by rw [if_neg (show ¬ (false = true) by decide)] at H; exact H
                    clear H
                    have H := H1
                    clear H1
                    have HC24 := Aside0.mk H
                    clear H
                    go_upto_region 4 with (fail)
                    go_cut [46] (fun v46 wc => ∃ (kq : Nat) (x46_23 : Bool), v46 = .bool x46_23 ∧ Aside0 (plan_Plan_Check.j3 kq x46_23 a0_0 a0_1 a0_2 a0_3 a0_4 a0_5 a0_6 a0_7 a0_8 a0_9 a0_10 a0_11 a0_12 a0_13 a0_14 a0_15 = some r) ∧ Aside0 (kq ≤ kj14) ∧ Aside0 (wc.heap[gb102]? = some (.cells #[.int .i64 a0_0, .int .i64 a0_1, .int .u8 a0_2, .int .u16 a0_3, .int .u16 a0_4, .int .i64 a0_5, .int .i64 a0_6, .int .i64 a0_7, .int .i64 a0_8, .int .i64 a0_9, .int .i64 a0_10, .int .i64 a0_11, .int .i64 a0_12, .int .i64 a0_13, .int .i64 a0_14, .bool a0_15] 24 (0, 0))) ∧ Aside0 (Below w.heap.size w wc))
                    case first =>
                      have H := HC24.out
                      clear HC24
                      obtain ⟨y105, hy105⟩ : ∃ y_ : List Int, y_ = (([a0_5, a0_7, a0_8, a0_9, a0_10, a0_11, a0_12] : List Int)) := ⟨_, rfl⟩
                      replace H : ((plan_lengths.f kj14 y105).bind fun t108 => (if t108 = true then (if a0_6 < 0 then (plan_Plan_Check.j3 kj14 true a0_0 a0_1 a0_2 a0_3 a0_4 a0_5 a0_6 a0_7 a0_8 a0_9 a0_10 a0_11 a0_12 a0_13 a0_14 a0_15) else (plan_Plan_Check.j3 kj14 (decide (a0_6 > 1048576)) a0_0 a0_1 a0_2 a0_3 a0_4 a0_5 a0_6 a0_7 a0_8 a0_9 a0_10 a0_11 a0_12 a0_13 a0_14 a0_15)) else (plan_Plan_Check.j3 kj14 true a0_0 a0_1 a0_2 a0_3 a0_4 a0_5 a0_6 a0_7 a0_8 a0_9 a0_10 a0_11 a0_12 a0_13 a0_14 a0_15))) = some r := by first | (rw [hy105]; with_reducible exact H) | (have H2_ := (Option.bind_some _ _).symm.trans H; rw [hy105]; with_reducible exact H2_) | (have H2_ := (Option.bind_some _ _).symm.trans H; with_reducible exact H2_) | with_reducible exact H | (rw [hy105]; exact H) | exact H
                      have Ny105 := Aside0.mk hy105
                      clear hy105
                      replace H := Option.bind_eq_some_iff.mp H
                      obtain ⟨t108, A250, H⟩ := H
                      replace H : (if t108 = true then (if a0_6 < 0 then (plan_Plan_Check.j3 kj14 true a0_0 a0_1 a0_2 a0_3 a0_4 a0_5 a0_6 a0_7 a0_8 a0_9 a0_10 a0_11 a0_12 a0_13 a0_14 a0_15) else (plan_Plan_Check.j3 kj14 (decide (a0_6 > 1048576)) a0_0 a0_1 a0_2 a0_3 a0_4 a0_5 a0_6 a0_7 a0_8 a0_9 a0_10 a0_11 a0_12 a0_13 a0_14 a0_15)) else (plan_Plan_Check.j3 kj14 true a0_0 a0_1 a0_2 a0_3 a0_4 a0_5 a0_6 a0_7 a0_8 a0_9 a0_10 a0_11 a0_12 a0_13 a0_14 a0_15)) = some r := H
                      have A25 := Aside0.mk A250
                      clear A250
                      by_cases c26 : t108 = true
                      · subst c26
                        have H1 : (if a0_6 < 0 then (plan_Plan_Check.j3 kj14 true a0_0 a0_1 a0_2 a0_3 a0_4 a0_5 a0_6 a0_7 a0_8 a0_9 a0_10 a0_11 a0_12 a0_13 a0_14 a0_15) else (plan_Plan_Check.j3 kj14 (decide (a0_6 > 1048576)) a0_0 a0_1 a0_2 a0_3 a0_4 a0_5 a0_6 a0_7 a0_8 a0_9 a0_10 a0_11 a0_12 a0_13 a0_14 a0_15)) = some r := by rw [if_pos rfl] at H; exact H
                        clear H
                        have H := H1
                        clear H1
                        by_cases c27 : a0_6 < 0
                        · rw [if_pos c27] at H
                          have c27b0 : decide (a0_6 < 0) = true := decide_eq_true c27
                          clear c27
                          (first | rw [c27b0] | (simp only [i64_w, i32_w]; rw [c27b0]) | skip)
                          have H' := Aside0.mk H
                          clear H
                          have hcz28_0 : wc.cell? ⟨gb102, 0, none⟩ = some (.int .i64 a0_0) := (blk_cell BK102.out 0).trans rfl
                          have hcz28_1 : wc.cell? ⟨gb102, 1, none⟩ = some (.int .i64 a0_1) := (blk_cell BK102.out 1).trans rfl
                          have hcz28_2 : wc.cell? ⟨gb102, 2, none⟩ = some (.int .u8 a0_2) := (blk_cell BK102.out 2).trans rfl
                          have hcz28_3 : wc.cell? ⟨gb102, 3, none⟩ = some (.int .u16 a0_3) := (blk_cell BK102.out 3).trans rfl
                          have hcz28_4 : wc.cell? ⟨gb102, 4, none⟩ = some (.int .u16 a0_4) := (blk_cell BK102.out 4).trans rfl
                          have hcz28_5 : wc.cell? ⟨gb102, 5, none⟩ = some (.int .i64 a0_5) := (blk_cell BK102.out 5).trans rfl
                          have hcz28_6 : wc.cell? ⟨gb102, 6, none⟩ = some (.int .i64 a0_6) := (blk_cell BK102.out 6).trans rfl
                          have hcz28_7 : wc.cell? ⟨gb102, 7, none⟩ = some (.int .i64 a0_7) := (blk_cell BK102.out 7).trans rfl
                          have hcz28_8 : wc.cell? ⟨gb102, 8, none⟩ = some (.int .i64 a0_8) := (blk_cell BK102.out 8).trans rfl
                          have hcz28_9 : wc.cell? ⟨gb102, 9, none⟩ = some (.int .i64 a0_9) := (blk_cell BK102.out 9).trans rfl
                          have hcz28_10 : wc.cell? ⟨gb102, 10, none⟩ = some (.int .i64 a0_10) := (blk_cell BK102.out 10).trans rfl
                          have hcz28_11 : wc.cell? ⟨gb102, 11, none⟩ = some (.int .i64 a0_11) := (blk_cell BK102.out 11).trans rfl
                          have hcz28_12 : wc.cell? ⟨gb102, 12, none⟩ = some (.int .i64 a0_12) := (blk_cell BK102.out 12).trans rfl
                          have hcz28_13 : wc.cell? ⟨gb102, 13, none⟩ = some (.int .i64 a0_13) := (blk_cell BK102.out 13).trans rfl
                          have hcz28_14 : wc.cell? ⟨gb102, 14, none⟩ = some (.int .i64 a0_14) := (blk_cell BK102.out 14).trans rfl
                          have hcz28_15 : wc.cell? ⟨gb102, 15, none⟩ = some (.bool a0_15) := (blk_cell BK102.out 15).trans rfl
                          have hfz28_0 := blk_frozen BK102.out 0
                          have hfz28_1 := blk_frozen BK102.out 1
                          have hfz28_2 := blk_frozen BK102.out 2
                          have hfz28_3 := blk_frozen BK102.out 3
                          have hfz28_4 := blk_frozen BK102.out 4
                          have hfz28_5 := blk_frozen BK102.out 5
                          have hfz28_6 := blk_frozen BK102.out 6
                          have hfz28_7 := blk_frozen BK102.out 7
                          have hfz28_8 := blk_frozen BK102.out 8
                          have hfz28_9 := blk_frozen BK102.out 9
                          have hfz28_10 := blk_frozen BK102.out 10
                          have hfz28_11 := blk_frozen BK102.out 11
                          have hfz28_12 := blk_frozen BK102.out 12
                          have hfz28_13 := blk_frozen BK102.out 13
                          have hfz28_14 := blk_frozen BK102.out 14
                          have hfz28_15 := blk_frozen BK102.out 15
                          go_wp2_with (first | ((with_reducible refine gate_dst (N := 61) rfl ?_); refine Kd.R_lit (Kd.int .i64) _ 2 ?hg (N := 61) ?hd (xs := ([a0_5, a0_7, a0_8, a0_9, a0_10, a0_11, a0_12] : List Int)) (inner := [.int .i64 a0_5, .int .i64 a0_7, .int .i64 a0_8, .int .i64 a0_9, .int .i64 a0_10, .int .i64 a0_11, .int .i64 a0_12]) (ok := fun _ => True) (okp := fun _ => True) ?hr ?hp (fun _ hk => hk) trivial (Below.refl _ _) (Nat.le_refl _) (by simp) ?_; (case hd => rfl); (case hg => rfl); (case hr => first | (go_simp; done) | (go_simp; rfl)); (case hp => exact (Reps.one (show Kd.M (Kd.int .i64) _ _ _ a0_5 [.int .i64 a0_5] from rfl) (Reps.one (show Kd.M (Kd.int .i64) _ _ _ a0_7 [.int .i64 a0_7] from rfl) (Reps.one (show Kd.M (Kd.int .i64) _ _ _ a0_8 [.int .i64 a0_8] from rfl) (Reps.one (show Kd.M (Kd.int .i64) _ _ _ a0_9 [.int .i64 a0_9] from rfl) (Reps.one (show Kd.M (Kd.int .i64) _ _ _ a0_10 [.int .i64 a0_10] from rfl) (Reps.one (show Kd.M (Kd.int .i64) _ _ _ a0_11 [.int .i64 a0_11] from rfl) (Reps.one (show Kd.M (Kd.int .i64) _ _ _ a0_12 [.int .i64 a0_12] from rfl) (Reps.none _ _))))))))); intro v106 w29 ho30 hb hg_ hnew_; clear hg_ hnew_; (first | rw [← Ny105.out] at ho30 | (simp only [Int.reduceToNat] at ho30; rw [← Ny105.out] at ho30)); have n0_ := Aside0.mk (Kd.R_lower ho30 (below_size (by repeat (first | (with_reducible first | exact HB.out | apply below_alloc | apply pw_below_drewN | apply below_drew1 | refine below_set ?_ GE102.out) | exact HB.out)))); have n1_ := Aside0.mk (blk_below (g := gb102) (o := .cells #[.int .i64 a0_0, .int .i64 a0_1, .int .u8 a0_2, .int .u16 a0_3, .int .u16 a0_4, .int .i64 a0_5, .int .i64 a0_6, .int .i64 a0_7, .int .i64 a0_8, .int .i64 a0_9, .int .i64 a0_10, .int .i64 a0_11, .int .i64 a0_12, .int .i64 a0_13, .int .i64 a0_14, .bool a0_15] 24 (0, 0)) (by (with_reducible repeat (first | refine blk_drewN ?_ _ | refine blk_drew ?_ | refine blk_alloc ?_ _)); exact BK102.out) hb); have n2_ := Aside0.mk (below_step (by repeat (first | (with_reducible first | exact HB.out | apply below_alloc | apply pw_below_drewN | apply below_drew1 | refine below_set ?_ GE102.out) | exact HB.out)) hb); clear BK102; clear HB; have HO107 := n0_; have BK102 := n1_; have HB := n2_; clear n0_ n1_ n2_; clear hb ho30; obtain ⟨Ao31, co31, eo31⟩ := Kd.R_slice HO107.out; subst eo31) | ((with_reducible refine gate_callee (f := 49) rfl ?_); refine goesL_ (some 62) rfl rfl Try.func49 (by kernel_rfl) rfl #[.slice Ao31 y105.length co31] rfl (by (try simp only [List.map_toArray, List.map_cons, List.map_nil]); first | done | rfl | (simp only [List.length_drop, List.length_take]; rfl)) ?_; (with_reducible refine (plan_lengths.calls kj14 _ _ y105 true _ ?side1 ?side2 A25.out).mono ?_); (case side1 => repeat (first | exact (Kd.R_reads' HO107.out).2.2 | (with_reducible refine Kd.C_alloc ?_ _) | (with_reducible refine Kd.C_drewN ?_ _) | (with_reducible refine Kd.C_drew ?_))); (case side2 => exact (Kd.R_reads' HO107.out).2.1); rintro e w' ⟨rfl, ⟨nd, rfl⟩⟩; refine ⟨_, rfl, ?_⟩; have hcz32_0 : w29.cell? ⟨gb102, 0, none⟩ = some (.int .i64 a0_0) := (blk_cell BK102.out 0).trans rfl; have hcz32_1 : w29.cell? ⟨gb102, 1, none⟩ = some (.int .i64 a0_1) := (blk_cell BK102.out 1).trans rfl; have hcz32_2 : w29.cell? ⟨gb102, 2, none⟩ = some (.int .u8 a0_2) := (blk_cell BK102.out 2).trans rfl; have hcz32_3 : w29.cell? ⟨gb102, 3, none⟩ = some (.int .u16 a0_3) := (blk_cell BK102.out 3).trans rfl; have hcz32_4 : w29.cell? ⟨gb102, 4, none⟩ = some (.int .u16 a0_4) := (blk_cell BK102.out 4).trans rfl; have hcz32_5 : w29.cell? ⟨gb102, 5, none⟩ = some (.int .i64 a0_5) := (blk_cell BK102.out 5).trans rfl; have hcz32_6 : w29.cell? ⟨gb102, 6, none⟩ = some (.int .i64 a0_6) := (blk_cell BK102.out 6).trans rfl; have hcz32_7 : w29.cell? ⟨gb102, 7, none⟩ = some (.int .i64 a0_7) := (blk_cell BK102.out 7).trans rfl; have hcz32_8 : w29.cell? ⟨gb102, 8, none⟩ = some (.int .i64 a0_8) := (blk_cell BK102.out 8).trans rfl; have hcz32_9 : w29.cell? ⟨gb102, 9, none⟩ = some (.int .i64 a0_9) := (blk_cell BK102.out 9).trans rfl; have hcz32_10 : w29.cell? ⟨gb102, 10, none⟩ = some (.int .i64 a0_10) := (blk_cell BK102.out 10).trans rfl; have hcz32_11 : w29.cell? ⟨gb102, 11, none⟩ = some (.int .i64 a0_11) := (blk_cell BK102.out 11).trans rfl; have hcz32_12 : w29.cell? ⟨gb102, 12, none⟩ = some (.int .i64 a0_12) := (blk_cell BK102.out 12).trans rfl; have hcz32_13 : w29.cell? ⟨gb102, 13, none⟩ = some (.int .i64 a0_13) := (blk_cell BK102.out 13).trans rfl; have hcz32_14 : w29.cell? ⟨gb102, 14, none⟩ = some (.int .i64 a0_14) := (blk_cell BK102.out 14).trans rfl; have hcz32_15 : w29.cell? ⟨gb102, 15, none⟩ = some (.bool a0_15) := (blk_cell BK102.out 15).trans rfl; have hfz32_0 := blk_frozen BK102.out 0; have hfz32_1 := blk_frozen BK102.out 1; have hfz32_2 := blk_frozen BK102.out 2; have hfz32_3 := blk_frozen BK102.out 3; have hfz32_4 := blk_frozen BK102.out 4; have hfz32_5 := blk_frozen BK102.out 5; have hfz32_6 := blk_frozen BK102.out 6; have hfz32_7 := blk_frozen BK102.out 7; have hfz32_8 := blk_frozen BK102.out 8; have hfz32_9 := blk_frozen BK102.out 9; have hfz32_10 := blk_frozen BK102.out 10; have hfz32_11 := blk_frozen BK102.out 11; have hfz32_12 := blk_frozen BK102.out 12; have hfz32_13 := blk_frozen BK102.out 13; have hfz32_14 := blk_frozen BK102.out 14; have hfz32_15 := blk_frozen BK102.out 15))
                          go_meet
                          case rel => exact ⟨_, (true), (by first | rfl | (simp; done) | (simp [*]; done)), H', ⟨by have := HJ1.out; have := HJ7.out; have := HJ14.out; first | omega | exact Nat.le_refl _⟩, ⟨by (with_reducible repeat (first | refine blk_drewN ?_ _ | refine blk_drew ?_ | refine blk_alloc ?_ _)); exact BK102.out⟩, ⟨by repeat (first | (with_reducible first | exact HB.out | apply below_alloc | apply pw_below_drewN | apply below_drew1 | refine below_set ?_ GE102.out) | exact HB.out)⟩⟩
                        · rw [if_neg c27] at H
                          have c27b0 : decide (a0_6 < 0) = false := decide_eq_false c27
                          clear c27
                          (first | rw [c27b0] | (simp only [i64_w, i32_w]; rw [c27b0]) | skip)
                          have H' := Aside0.mk H
                          clear H
                          have hcz33_0 : wc.cell? ⟨gb102, 0, none⟩ = some (.int .i64 a0_0) := (blk_cell BK102.out 0).trans rfl
                          have hcz33_1 : wc.cell? ⟨gb102, 1, none⟩ = some (.int .i64 a0_1) := (blk_cell BK102.out 1).trans rfl
                          have hcz33_2 : wc.cell? ⟨gb102, 2, none⟩ = some (.int .u8 a0_2) := (blk_cell BK102.out 2).trans rfl
                          have hcz33_3 : wc.cell? ⟨gb102, 3, none⟩ = some (.int .u16 a0_3) := (blk_cell BK102.out 3).trans rfl
                          have hcz33_4 : wc.cell? ⟨gb102, 4, none⟩ = some (.int .u16 a0_4) := (blk_cell BK102.out 4).trans rfl
                          have hcz33_5 : wc.cell? ⟨gb102, 5, none⟩ = some (.int .i64 a0_5) := (blk_cell BK102.out 5).trans rfl
                          have hcz33_6 : wc.cell? ⟨gb102, 6, none⟩ = some (.int .i64 a0_6) := (blk_cell BK102.out 6).trans rfl
                          have hcz33_7 : wc.cell? ⟨gb102, 7, none⟩ = some (.int .i64 a0_7) := (blk_cell BK102.out 7).trans rfl
                          have hcz33_8 : wc.cell? ⟨gb102, 8, none⟩ = some (.int .i64 a0_8) := (blk_cell BK102.out 8).trans rfl
                          have hcz33_9 : wc.cell? ⟨gb102, 9, none⟩ = some (.int .i64 a0_9) := (blk_cell BK102.out 9).trans rfl
                          have hcz33_10 : wc.cell? ⟨gb102, 10, none⟩ = some (.int .i64 a0_10) := (blk_cell BK102.out 10).trans rfl
                          have hcz33_11 : wc.cell? ⟨gb102, 11, none⟩ = some (.int .i64 a0_11) := (blk_cell BK102.out 11).trans rfl
                          have hcz33_12 : wc.cell? ⟨gb102, 12, none⟩ = some (.int .i64 a0_12) := (blk_cell BK102.out 12).trans rfl
                          have hcz33_13 : wc.cell? ⟨gb102, 13, none⟩ = some (.int .i64 a0_13) := (blk_cell BK102.out 13).trans rfl
                          have hcz33_14 : wc.cell? ⟨gb102, 14, none⟩ = some (.int .i64 a0_14) := (blk_cell BK102.out 14).trans rfl
                          have hcz33_15 : wc.cell? ⟨gb102, 15, none⟩ = some (.bool a0_15) := (blk_cell BK102.out 15).trans rfl
                          have hfz33_0 := blk_frozen BK102.out 0
                          have hfz33_1 := blk_frozen BK102.out 1
                          have hfz33_2 := blk_frozen BK102.out 2
                          have hfz33_3 := blk_frozen BK102.out 3
                          have hfz33_4 := blk_frozen BK102.out 4
                          have hfz33_5 := blk_frozen BK102.out 5
                          have hfz33_6 := blk_frozen BK102.out 6
                          have hfz33_7 := blk_frozen BK102.out 7
                          have hfz33_8 := blk_frozen BK102.out 8
                          have hfz33_9 := blk_frozen BK102.out 9
                          have hfz33_10 := blk_frozen BK102.out 10
                          have hfz33_11 := blk_frozen BK102.out 11
                          have hfz33_12 := blk_frozen BK102.out 12
                          have hfz33_13 := blk_frozen BK102.out 13
                          have hfz33_14 := blk_frozen BK102.out 14
                          have hfz33_15 := blk_frozen BK102.out 15
                          go_wp2_with (first | ((with_reducible refine gate_dst (N := 61) rfl ?_); refine Kd.R_lit (Kd.int .i64) _ 2 ?hg (N := 61) ?hd (xs := ([a0_5, a0_7, a0_8, a0_9, a0_10, a0_11, a0_12] : List Int)) (inner := [.int .i64 a0_5, .int .i64 a0_7, .int .i64 a0_8, .int .i64 a0_9, .int .i64 a0_10, .int .i64 a0_11, .int .i64 a0_12]) (ok := fun _ => True) (okp := fun _ => True) ?hr ?hp (fun _ hk => hk) trivial (Below.refl _ _) (Nat.le_refl _) (by simp) ?_; (case hd => rfl); (case hg => rfl); (case hr => first | (go_simp; done) | (go_simp; rfl)); (case hp => exact (Reps.one (show Kd.M (Kd.int .i64) _ _ _ a0_5 [.int .i64 a0_5] from rfl) (Reps.one (show Kd.M (Kd.int .i64) _ _ _ a0_7 [.int .i64 a0_7] from rfl) (Reps.one (show Kd.M (Kd.int .i64) _ _ _ a0_8 [.int .i64 a0_8] from rfl) (Reps.one (show Kd.M (Kd.int .i64) _ _ _ a0_9 [.int .i64 a0_9] from rfl) (Reps.one (show Kd.M (Kd.int .i64) _ _ _ a0_10 [.int .i64 a0_10] from rfl) (Reps.one (show Kd.M (Kd.int .i64) _ _ _ a0_11 [.int .i64 a0_11] from rfl) (Reps.one (show Kd.M (Kd.int .i64) _ _ _ a0_12 [.int .i64 a0_12] from rfl) (Reps.none _ _))))))))); intro v106 w34 ho35 hb hg_ hnew_; clear hg_ hnew_; (first | rw [← Ny105.out] at ho35 | (simp only [Int.reduceToNat] at ho35; rw [← Ny105.out] at ho35)); have n0_ := Aside0.mk (Kd.R_lower ho35 (below_size (by repeat (first | (with_reducible first | exact HB.out | apply below_alloc | apply pw_below_drewN | apply below_drew1 | refine below_set ?_ GE102.out) | exact HB.out)))); have n1_ := Aside0.mk (blk_below (g := gb102) (o := .cells #[.int .i64 a0_0, .int .i64 a0_1, .int .u8 a0_2, .int .u16 a0_3, .int .u16 a0_4, .int .i64 a0_5, .int .i64 a0_6, .int .i64 a0_7, .int .i64 a0_8, .int .i64 a0_9, .int .i64 a0_10, .int .i64 a0_11, .int .i64 a0_12, .int .i64 a0_13, .int .i64 a0_14, .bool a0_15] 24 (0, 0)) (by (with_reducible repeat (first | refine blk_drewN ?_ _ | refine blk_drew ?_ | refine blk_alloc ?_ _)); exact BK102.out) hb); have n2_ := Aside0.mk (below_step (by repeat (first | (with_reducible first | exact HB.out | apply below_alloc | apply pw_below_drewN | apply below_drew1 | refine below_set ?_ GE102.out) | exact HB.out)) hb); clear BK102; clear HB; have HO107 := n0_; have BK102 := n1_; have HB := n2_; clear n0_ n1_ n2_; clear hb ho35; obtain ⟨Ao36, co36, eo36⟩ := Kd.R_slice HO107.out; subst eo36) | ((with_reducible refine gate_callee (f := 49) rfl ?_); refine goesL_ (some 62) rfl rfl Try.func49 (by kernel_rfl) rfl #[.slice Ao36 y105.length co36] rfl (by (try simp only [List.map_toArray, List.map_cons, List.map_nil]); first | done | rfl | (simp only [List.length_drop, List.length_take]; rfl)) ?_; (with_reducible refine (plan_lengths.calls kj14 _ _ y105 true _ ?side1 ?side2 A25.out).mono ?_); (case side1 => repeat (first | exact (Kd.R_reads' HO107.out).2.2 | (with_reducible refine Kd.C_alloc ?_ _) | (with_reducible refine Kd.C_drewN ?_ _) | (with_reducible refine Kd.C_drew ?_))); (case side2 => exact (Kd.R_reads' HO107.out).2.1); rintro e w' ⟨rfl, ⟨nd, rfl⟩⟩; refine ⟨_, rfl, ?_⟩; have hcz37_0 : w34.cell? ⟨gb102, 0, none⟩ = some (.int .i64 a0_0) := (blk_cell BK102.out 0).trans rfl; have hcz37_1 : w34.cell? ⟨gb102, 1, none⟩ = some (.int .i64 a0_1) := (blk_cell BK102.out 1).trans rfl; have hcz37_2 : w34.cell? ⟨gb102, 2, none⟩ = some (.int .u8 a0_2) := (blk_cell BK102.out 2).trans rfl; have hcz37_3 : w34.cell? ⟨gb102, 3, none⟩ = some (.int .u16 a0_3) := (blk_cell BK102.out 3).trans rfl; have hcz37_4 : w34.cell? ⟨gb102, 4, none⟩ = some (.int .u16 a0_4) := (blk_cell BK102.out 4).trans rfl; have hcz37_5 : w34.cell? ⟨gb102, 5, none⟩ = some (.int .i64 a0_5) := (blk_cell BK102.out 5).trans rfl; have hcz37_6 : w34.cell? ⟨gb102, 6, none⟩ = some (.int .i64 a0_6) := (blk_cell BK102.out 6).trans rfl; have hcz37_7 : w34.cell? ⟨gb102, 7, none⟩ = some (.int .i64 a0_7) := (blk_cell BK102.out 7).trans rfl; have hcz37_8 : w34.cell? ⟨gb102, 8, none⟩ = some (.int .i64 a0_8) := (blk_cell BK102.out 8).trans rfl; have hcz37_9 : w34.cell? ⟨gb102, 9, none⟩ = some (.int .i64 a0_9) := (blk_cell BK102.out 9).trans rfl; have hcz37_10 : w34.cell? ⟨gb102, 10, none⟩ = some (.int .i64 a0_10) := (blk_cell BK102.out 10).trans rfl; have hcz37_11 : w34.cell? ⟨gb102, 11, none⟩ = some (.int .i64 a0_11) := (blk_cell BK102.out 11).trans rfl; have hcz37_12 : w34.cell? ⟨gb102, 12, none⟩ = some (.int .i64 a0_12) := (blk_cell BK102.out 12).trans rfl; have hcz37_13 : w34.cell? ⟨gb102, 13, none⟩ = some (.int .i64 a0_13) := (blk_cell BK102.out 13).trans rfl; have hcz37_14 : w34.cell? ⟨gb102, 14, none⟩ = some (.int .i64 a0_14) := (blk_cell BK102.out 14).trans rfl; have hcz37_15 : w34.cell? ⟨gb102, 15, none⟩ = some (.bool a0_15) := (blk_cell BK102.out 15).trans rfl; have hfz37_0 := blk_frozen BK102.out 0; have hfz37_1 := blk_frozen BK102.out 1; have hfz37_2 := blk_frozen BK102.out 2; have hfz37_3 := blk_frozen BK102.out 3; have hfz37_4 := blk_frozen BK102.out 4; have hfz37_5 := blk_frozen BK102.out 5; have hfz37_6 := blk_frozen BK102.out 6; have hfz37_7 := blk_frozen BK102.out 7; have hfz37_8 := blk_frozen BK102.out 8; have hfz37_9 := blk_frozen BK102.out 9; have hfz37_10 := blk_frozen BK102.out 10; have hfz37_11 := blk_frozen BK102.out 11; have hfz37_12 := blk_frozen BK102.out 12; have hfz37_13 := blk_frozen BK102.out 13; have hfz37_14 := blk_frozen BK102.out 14; have hfz37_15 := blk_frozen BK102.out 15))
                          go_meet
                          case rel => exact ⟨_, (decide (a0_6 > 1048576)), (by first | rfl | (simp; done) | (simp [*]; done)), H', ⟨by have := HJ1.out; have := HJ7.out; have := HJ14.out; first | omega | exact Nat.le_refl _⟩, ⟨by (with_reducible repeat (first | refine blk_drewN ?_ _ | refine blk_drew ?_ | refine blk_alloc ?_ _)); exact BK102.out⟩, ⟨by repeat (first | (with_reducible first | exact HB.out | apply below_alloc | apply pw_below_drewN | apply below_drew1 | refine below_set ?_ GE102.out) | exact HB.out)⟩⟩
                      · replace c26 := Bool.eq_false_iff.mpr c26
                        subst c26
                        have H1 : (plan_Plan_Check.j3 kj14 true a0_0 a0_1 a0_2 a0_3 a0_4 a0_5 a0_6 a0_7 a0_8 a0_9 a0_10 a0_11 a0_12 a0_13 a0_14 a0_15) = some r := by rw [if_neg (show ¬ (false = true) by decide)] at H; exact H
                        clear H
                        have H := H1
                        clear H1
                        have H' := Aside0.mk H
                        clear H
                        have hcz38_0 : wc.cell? ⟨gb102, 0, none⟩ = some (.int .i64 a0_0) := (blk_cell BK102.out 0).trans rfl
                        have hcz38_1 : wc.cell? ⟨gb102, 1, none⟩ = some (.int .i64 a0_1) := (blk_cell BK102.out 1).trans rfl
                        have hcz38_2 : wc.cell? ⟨gb102, 2, none⟩ = some (.int .u8 a0_2) := (blk_cell BK102.out 2).trans rfl
                        have hcz38_3 : wc.cell? ⟨gb102, 3, none⟩ = some (.int .u16 a0_3) := (blk_cell BK102.out 3).trans rfl
                        have hcz38_4 : wc.cell? ⟨gb102, 4, none⟩ = some (.int .u16 a0_4) := (blk_cell BK102.out 4).trans rfl
                        have hcz38_5 : wc.cell? ⟨gb102, 5, none⟩ = some (.int .i64 a0_5) := (blk_cell BK102.out 5).trans rfl
                        have hcz38_6 : wc.cell? ⟨gb102, 6, none⟩ = some (.int .i64 a0_6) := (blk_cell BK102.out 6).trans rfl
                        have hcz38_7 : wc.cell? ⟨gb102, 7, none⟩ = some (.int .i64 a0_7) := (blk_cell BK102.out 7).trans rfl
                        have hcz38_8 : wc.cell? ⟨gb102, 8, none⟩ = some (.int .i64 a0_8) := (blk_cell BK102.out 8).trans rfl
                        have hcz38_9 : wc.cell? ⟨gb102, 9, none⟩ = some (.int .i64 a0_9) := (blk_cell BK102.out 9).trans rfl
                        have hcz38_10 : wc.cell? ⟨gb102, 10, none⟩ = some (.int .i64 a0_10) := (blk_cell BK102.out 10).trans rfl
                        have hcz38_11 : wc.cell? ⟨gb102, 11, none⟩ = some (.int .i64 a0_11) := (blk_cell BK102.out 11).trans rfl
                        have hcz38_12 : wc.cell? ⟨gb102, 12, none⟩ = some (.int .i64 a0_12) := (blk_cell BK102.out 12).trans rfl
                        have hcz38_13 : wc.cell? ⟨gb102, 13, none⟩ = some (.int .i64 a0_13) := (blk_cell BK102.out 13).trans rfl
                        have hcz38_14 : wc.cell? ⟨gb102, 14, none⟩ = some (.int .i64 a0_14) := (blk_cell BK102.out 14).trans rfl
                        have hcz38_15 : wc.cell? ⟨gb102, 15, none⟩ = some (.bool a0_15) := (blk_cell BK102.out 15).trans rfl
                        have hfz38_0 := blk_frozen BK102.out 0
                        have hfz38_1 := blk_frozen BK102.out 1
                        have hfz38_2 := blk_frozen BK102.out 2
                        have hfz38_3 := blk_frozen BK102.out 3
                        have hfz38_4 := blk_frozen BK102.out 4
                        have hfz38_5 := blk_frozen BK102.out 5
                        have hfz38_6 := blk_frozen BK102.out 6
                        have hfz38_7 := blk_frozen BK102.out 7
                        have hfz38_8 := blk_frozen BK102.out 8
                        have hfz38_9 := blk_frozen BK102.out 9
                        have hfz38_10 := blk_frozen BK102.out 10
                        have hfz38_11 := blk_frozen BK102.out 11
                        have hfz38_12 := blk_frozen BK102.out 12
                        have hfz38_13 := blk_frozen BK102.out 13
                        have hfz38_14 := blk_frozen BK102.out 14
                        have hfz38_15 := blk_frozen BK102.out 15
                        go_wp2_with (first | ((with_reducible refine gate_dst (N := 61) rfl ?_); refine Kd.R_lit (Kd.int .i64) _ 2 ?hg (N := 61) ?hd (xs := ([a0_5, a0_7, a0_8, a0_9, a0_10, a0_11, a0_12] : List Int)) (inner := [.int .i64 a0_5, .int .i64 a0_7, .int .i64 a0_8, .int .i64 a0_9, .int .i64 a0_10, .int .i64 a0_11, .int .i64 a0_12]) (ok := fun _ => True) (okp := fun _ => True) ?hr ?hp (fun _ hk => hk) trivial (Below.refl _ _) (Nat.le_refl _) (by simp) ?_; (case hd => rfl); (case hg => rfl); (case hr => first | (go_simp; done) | (go_simp; rfl)); (case hp => exact (Reps.one (show Kd.M (Kd.int .i64) _ _ _ a0_5 [.int .i64 a0_5] from rfl) (Reps.one (show Kd.M (Kd.int .i64) _ _ _ a0_7 [.int .i64 a0_7] from rfl) (Reps.one (show Kd.M (Kd.int .i64) _ _ _ a0_8 [.int .i64 a0_8] from rfl) (Reps.one (show Kd.M (Kd.int .i64) _ _ _ a0_9 [.int .i64 a0_9] from rfl) (Reps.one (show Kd.M (Kd.int .i64) _ _ _ a0_10 [.int .i64 a0_10] from rfl) (Reps.one (show Kd.M (Kd.int .i64) _ _ _ a0_11 [.int .i64 a0_11] from rfl) (Reps.one (show Kd.M (Kd.int .i64) _ _ _ a0_12 [.int .i64 a0_12] from rfl) (Reps.none _ _))))))))); intro v106 w39 ho40 hb hg_ hnew_; clear hg_ hnew_; (first | rw [← Ny105.out] at ho40 | (simp only [Int.reduceToNat] at ho40; rw [← Ny105.out] at ho40)); have n0_ := Aside0.mk (Kd.R_lower ho40 (below_size (by repeat (first | (with_reducible first | exact HB.out | apply below_alloc | apply pw_below_drewN | apply below_drew1 | refine below_set ?_ GE102.out) | exact HB.out)))); have n1_ := Aside0.mk (blk_below (g := gb102) (o := .cells #[.int .i64 a0_0, .int .i64 a0_1, .int .u8 a0_2, .int .u16 a0_3, .int .u16 a0_4, .int .i64 a0_5, .int .i64 a0_6, .int .i64 a0_7, .int .i64 a0_8, .int .i64 a0_9, .int .i64 a0_10, .int .i64 a0_11, .int .i64 a0_12, .int .i64 a0_13, .int .i64 a0_14, .bool a0_15] 24 (0, 0)) (by (with_reducible repeat (first | refine blk_drewN ?_ _ | refine blk_drew ?_ | refine blk_alloc ?_ _)); exact BK102.out) hb); have n2_ := Aside0.mk (below_step (by repeat (first | (with_reducible first | exact HB.out | apply below_alloc | apply pw_below_drewN | apply below_drew1 | refine below_set ?_ GE102.out) | exact HB.out)) hb); clear BK102; clear HB; have HO107 := n0_; have BK102 := n1_; have HB := n2_; clear n0_ n1_ n2_; clear hb ho40; obtain ⟨Ao41, co41, eo41⟩ := Kd.R_slice HO107.out; subst eo41) | ((with_reducible refine gate_callee (f := 49) rfl ?_); refine goesL_ (some 62) rfl rfl Try.func49 (by kernel_rfl) rfl #[.slice Ao41 y105.length co41] rfl (by (try simp only [List.map_toArray, List.map_cons, List.map_nil]); first | done | rfl | (simp only [List.length_drop, List.length_take]; rfl)) ?_; (with_reducible refine (plan_lengths.calls kj14 _ _ y105 false _ ?side1 ?side2 A25.out).mono ?_); (case side1 => repeat (first | exact (Kd.R_reads' HO107.out).2.2 | (with_reducible refine Kd.C_alloc ?_ _) | (with_reducible refine Kd.C_drewN ?_ _) | (with_reducible refine Kd.C_drew ?_))); (case side2 => exact (Kd.R_reads' HO107.out).2.1); rintro e w' ⟨rfl, ⟨nd, rfl⟩⟩; refine ⟨_, rfl, ?_⟩))
                        go_meet
                        case rel => exact ⟨_, (true), (by first | rfl | (simp; done) | (simp [*]; done)), H', ⟨by have := HJ1.out; have := HJ7.out; have := HJ14.out; first | omega | exact Nat.le_refl _⟩, ⟨by (with_reducible repeat (first | refine blk_drewN ?_ _ | refine blk_drew ?_ | refine blk_alloc ?_ _)); exact BK102.out⟩, ⟨by repeat (first | (with_reducible first | exact HB.out | apply below_alloc | apply pw_below_drewN | apply below_drew1 | refine below_set ?_ GE102.out) | exact HB.out)⟩⟩
                    case rest =>
                      clear HC24
                      try clear c1
                      try clear c2
                      try clear p2
                      try clear c3
                      try clear c4
                      try clear c4b0
                      try clear c7
                      try clear c9
                      try clear c9b0
                      try clear c11
                      try clear c11b0
                      try clear c14
                      try clear c17
                      try clear c19
                      try clear c23
                      try clear c26
                      try clear c27
                      try clear c27b0
                      try clear hcz10_0
                      try clear hcz10_1
                      try clear hcz10_10
                      try clear hcz10_11
                      try clear hcz10_12
                      try clear hcz10_13
                      try clear hcz10_14
                      try clear hcz10_15
                      try clear hcz10_2
                      try clear hcz10_3
                      try clear hcz10_4
                      try clear hcz10_5
                      try clear hcz10_6
                      try clear hcz10_7
                      try clear hcz10_8
                      try clear hcz10_9
                      try clear hcz12_0
                      try clear hcz12_1
                      try clear hcz12_10
                      try clear hcz12_11
                      try clear hcz12_12
                      try clear hcz12_13
                      try clear hcz12_14
                      try clear hcz12_15
                      try clear hcz12_2
                      try clear hcz12_3
                      try clear hcz12_4
                      try clear hcz12_5
                      try clear hcz12_6
                      try clear hcz12_7
                      try clear hcz12_8
                      try clear hcz12_9
                      try clear hcz13_0
                      try clear hcz13_1
                      try clear hcz13_10
                      try clear hcz13_11
                      try clear hcz13_12
                      try clear hcz13_13
                      try clear hcz13_14
                      try clear hcz13_15
                      try clear hcz13_2
                      try clear hcz13_3
                      try clear hcz13_4
                      try clear hcz13_5
                      try clear hcz13_6
                      try clear hcz13_7
                      try clear hcz13_8
                      try clear hcz13_9
                      try clear hcz20_0
                      try clear hcz20_1
                      try clear hcz20_10
                      try clear hcz20_11
                      try clear hcz20_12
                      try clear hcz20_13
                      try clear hcz20_14
                      try clear hcz20_15
                      try clear hcz20_2
                      try clear hcz20_3
                      try clear hcz20_4
                      try clear hcz20_5
                      try clear hcz20_6
                      try clear hcz20_7
                      try clear hcz20_8
                      try clear hcz20_9
                      try clear hcz21_0
                      try clear hcz21_1
                      try clear hcz21_10
                      try clear hcz21_11
                      try clear hcz21_12
                      try clear hcz21_13
                      try clear hcz21_14
                      try clear hcz21_15
                      try clear hcz21_2
                      try clear hcz21_3
                      try clear hcz21_4
                      try clear hcz21_5
                      try clear hcz21_6
                      try clear hcz21_7
                      try clear hcz21_8
                      try clear hcz21_9
                      try clear hcz22_0
                      try clear hcz22_1
                      try clear hcz22_10
                      try clear hcz22_11
                      try clear hcz22_12
                      try clear hcz22_13
                      try clear hcz22_14
                      try clear hcz22_15
                      try clear hcz22_2
                      try clear hcz22_3
                      try clear hcz22_4
                      try clear hcz22_5
                      try clear hcz22_6
                      try clear hcz22_7
                      try clear hcz22_8
                      try clear hcz22_9
                      try clear hcz28_0
                      try clear hcz28_1
                      try clear hcz28_10
                      try clear hcz28_11
                      try clear hcz28_12
                      try clear hcz28_13
                      try clear hcz28_14
                      try clear hcz28_15
                      try clear hcz28_2
                      try clear hcz28_3
                      try clear hcz28_4
                      try clear hcz28_5
                      try clear hcz28_6
                      try clear hcz28_7
                      try clear hcz28_8
                      try clear hcz28_9
                      try clear hcz32_0
                      try clear hcz32_1
                      try clear hcz32_10
                      try clear hcz32_11
                      try clear hcz32_12
                      try clear hcz32_13
                      try clear hcz32_14
                      try clear hcz32_15
                      try clear hcz32_2
                      try clear hcz32_3
                      try clear hcz32_4
                      try clear hcz32_5
                      try clear hcz32_6
                      try clear hcz32_7
                      try clear hcz32_8
                      try clear hcz32_9
                      try clear hcz33_0
                      try clear hcz33_1
                      try clear hcz33_10
                      try clear hcz33_11
                      try clear hcz33_12
                      try clear hcz33_13
                      try clear hcz33_14
                      try clear hcz33_15
                      try clear hcz33_2
                      try clear hcz33_3
                      try clear hcz33_4
                      try clear hcz33_5
                      try clear hcz33_6
                      try clear hcz33_7
                      try clear hcz33_8
                      try clear hcz33_9
                      try clear hcz37_0
                      try clear hcz37_1
                      try clear hcz37_10
                      try clear hcz37_11
                      try clear hcz37_12
                      try clear hcz37_13
                      try clear hcz37_14
                      try clear hcz37_15
                      try clear hcz37_2
                      try clear hcz37_3
                      try clear hcz37_4
                      try clear hcz37_5
                      try clear hcz37_6
                      try clear hcz37_7
                      try clear hcz37_8
                      try clear hcz37_9
                      try clear hcz38_0
                      try clear hcz38_1
                      try clear hcz38_10
                      try clear hcz38_11
                      try clear hcz38_12
                      try clear hcz38_13
                      try clear hcz38_14
                      try clear hcz38_15
                      try clear hcz38_2
                      try clear hcz38_3
                      try clear hcz38_4
                      try clear hcz38_5
                      try clear hcz38_6
                      try clear hcz38_7
                      try clear hcz38_8
                      try clear hcz38_9
                      try clear hcz5_0
                      try clear hcz5_1
                      try clear hcz5_10
                      try clear hcz5_11
                      try clear hcz5_12
                      try clear hcz5_13
                      try clear hcz5_14
                      try clear hcz5_15
                      try clear hcz5_2
                      try clear hcz5_3
                      try clear hcz5_4
                      try clear hcz5_5
                      try clear hcz5_6
                      try clear hcz5_7
                      try clear hcz5_8
                      try clear hcz5_9
                      try clear hcz6_0
                      try clear hcz6_1
                      try clear hcz6_10
                      try clear hcz6_11
                      try clear hcz6_12
                      try clear hcz6_13
                      try clear hcz6_14
                      try clear hcz6_15
                      try clear hcz6_2
                      try clear hcz6_3
                      try clear hcz6_4
                      try clear hcz6_5
                      try clear hcz6_6
                      try clear hcz6_7
                      try clear hcz6_8
                      try clear hcz6_9
                      try clear hfz10_0
                      try clear hfz10_1
                      try clear hfz10_10
                      try clear hfz10_11
                      try clear hfz10_12
                      try clear hfz10_13
                      try clear hfz10_14
                      try clear hfz10_15
                      try clear hfz10_2
                      try clear hfz10_3
                      try clear hfz10_4
                      try clear hfz10_5
                      try clear hfz10_6
                      try clear hfz10_7
                      try clear hfz10_8
                      try clear hfz10_9
                      try clear hfz12_0
                      try clear hfz12_1
                      try clear hfz12_10
                      try clear hfz12_11
                      try clear hfz12_12
                      try clear hfz12_13
                      try clear hfz12_14
                      try clear hfz12_15
                      try clear hfz12_2
                      try clear hfz12_3
                      try clear hfz12_4
                      try clear hfz12_5
                      try clear hfz12_6
                      try clear hfz12_7
                      try clear hfz12_8
                      try clear hfz12_9
                      try clear hfz13_0
                      try clear hfz13_1
                      try clear hfz13_10
                      try clear hfz13_11
                      try clear hfz13_12
                      try clear hfz13_13
                      try clear hfz13_14
                      try clear hfz13_15
                      try clear hfz13_2
                      try clear hfz13_3
                      try clear hfz13_4
                      try clear hfz13_5
                      try clear hfz13_6
                      try clear hfz13_7
                      try clear hfz13_8
                      try clear hfz13_9
                      try clear hfz20_0
                      try clear hfz20_1
                      try clear hfz20_10
                      try clear hfz20_11
                      try clear hfz20_12
                      try clear hfz20_13
                      try clear hfz20_14
                      try clear hfz20_15
                      try clear hfz20_2
                      try clear hfz20_3
                      try clear hfz20_4
                      try clear hfz20_5
                      try clear hfz20_6
                      try clear hfz20_7
                      try clear hfz20_8
                      try clear hfz20_9
                      try clear hfz21_0
                      try clear hfz21_1
                      try clear hfz21_10
                      try clear hfz21_11
                      try clear hfz21_12
                      try clear hfz21_13
                      try clear hfz21_14
                      try clear hfz21_15
                      try clear hfz21_2
                      try clear hfz21_3
                      try clear hfz21_4
                      try clear hfz21_5
                      try clear hfz21_6
                      try clear hfz21_7
                      try clear hfz21_8
                      try clear hfz21_9
                      try clear hfz22_0
                      try clear hfz22_1
                      try clear hfz22_10
                      try clear hfz22_11
                      try clear hfz22_12
                      try clear hfz22_13
                      try clear hfz22_14
                      try clear hfz22_15
                      try clear hfz22_2
                      try clear hfz22_3
                      try clear hfz22_4
                      try clear hfz22_5
                      try clear hfz22_6
                      try clear hfz22_7
                      try clear hfz22_8
                      try clear hfz22_9
                      try clear hfz28_0
                      try clear hfz28_1
                      try clear hfz28_10
                      try clear hfz28_11
                      try clear hfz28_12
                      try clear hfz28_13
                      try clear hfz28_14
                      try clear hfz28_15
                      try clear hfz28_2
                      try clear hfz28_3
                      try clear hfz28_4
                      try clear hfz28_5
                      try clear hfz28_6
                      try clear hfz28_7
                      try clear hfz28_8
                      try clear hfz28_9
                      try clear hfz32_0
                      try clear hfz32_1
                      try clear hfz32_10
                      try clear hfz32_11
                      try clear hfz32_12
                      try clear hfz32_13
                      try clear hfz32_14
                      try clear hfz32_15
                      try clear hfz32_2
                      try clear hfz32_3
                      try clear hfz32_4
                      try clear hfz32_5
                      try clear hfz32_6
                      try clear hfz32_7
                      try clear hfz32_8
                      try clear hfz32_9
                      try clear hfz33_0
                      try clear hfz33_1
                      try clear hfz33_10
                      try clear hfz33_11
                      try clear hfz33_12
                      try clear hfz33_13
                      try clear hfz33_14
                      try clear hfz33_15
                      try clear hfz33_2
                      try clear hfz33_3
                      try clear hfz33_4
                      try clear hfz33_5
                      try clear hfz33_6
                      try clear hfz33_7
                      try clear hfz33_8
                      try clear hfz33_9
                      try clear hfz37_0
                      try clear hfz37_1
                      try clear hfz37_10
                      try clear hfz37_11
                      try clear hfz37_12
                      try clear hfz37_13
                      try clear hfz37_14
                      try clear hfz37_15
                      try clear hfz37_2
                      try clear hfz37_3
                      try clear hfz37_4
                      try clear hfz37_5
                      try clear hfz37_6
                      try clear hfz37_7
                      try clear hfz37_8
                      try clear hfz37_9
                      try clear hfz38_0
                      try clear hfz38_1
                      try clear hfz38_10
                      try clear hfz38_11
                      try clear hfz38_12
                      try clear hfz38_13
                      try clear hfz38_14
                      try clear hfz38_15
                      try clear hfz38_2
                      try clear hfz38_3
                      try clear hfz38_4
                      try clear hfz38_5
                      try clear hfz38_6
                      try clear hfz38_7
                      try clear hfz38_8
                      try clear hfz38_9
                      try clear hfz5_0
                      try clear hfz5_1
                      try clear hfz5_10
                      try clear hfz5_11
                      try clear hfz5_12
                      try clear hfz5_13
                      try clear hfz5_14
                      try clear hfz5_15
                      try clear hfz5_2
                      try clear hfz5_3
                      try clear hfz5_4
                      try clear hfz5_5
                      try clear hfz5_6
                      try clear hfz5_7
                      try clear hfz5_8
                      try clear hfz5_9
                      try clear hfz6_0
                      try clear hfz6_1
                      try clear hfz6_10
                      try clear hfz6_11
                      try clear hfz6_12
                      try clear hfz6_13
                      try clear hfz6_14
                      try clear hfz6_15
                      try clear hfz6_2
                      try clear hfz6_3
                      try clear hfz6_4
                      try clear hfz6_5
                      try clear hfz6_6
                      try clear hfz6_7
                      try clear hfz6_8
                      try clear hfz6_9
                      try clear p2
                      obtain ⟨kq, x46_23, rfl, HA, HJ23, BK102, HB⟩ := hcut
                      cases kq with
                      | zero => exact absurd HA.out (by simp [plan_Plan_Check.j3])
                      | succ kj23 =>
                        have H := HA.out
                        clear HA
                        simp only [plan_Plan_Check.j3] at H
                        by_cases c42 : x46_23 = true
                        · subst c42
                          have H1 : (some 4) = some r := by rw [if_pos rfl] at H; exact H
                          clear H
                          have H := H1
                          clear H1
                          obtain rfl := Option.some.inj H
                          go_wp2
                          go_ret
                          exact ⟨by first | rfl | (simp [errW_none, errW_some] <;> rfl) | (simp [*, errW_none, errW_some] <;> rfl), by repeat (first | (with_reducible first | exact HB.out | apply below_alloc | apply pw_below_drewN | apply below_drew1 | refine below_set ?_ GE102.out) | exact HB.out)⟩
                        · replace c42 := Bool.eq_false_iff.mpr c42
                          subst c42
                          have H1 : (if a0_13 < 1 then (plan_Plan_Check.j4 kj23 true) else (if a0_13 > 1024 then (plan_Plan_Check.j4 kj23 true) else (if a0_14 < 1 then (plan_Plan_Check.j4 kj23 true) else (plan_Plan_Check.j4 kj23 (decide (a0_14 > 256)))))) = some r := by rw [if_neg (show ¬ (false = true) by decide)] at H; exact H
                          clear H
                          have H := H1
                          clear H1
                          have HC43 := Aside0.mk H
                          clear H
                          go_upto_region 5 with (fail)
                          go_cut [74] (fun v74 wc => ∃ (kq : Nat) (x74_42 : Bool), v74 = .bool x74_42 ∧ Aside0 (plan_Plan_Check.j4 kq x74_42 = some r) ∧ Aside0 (kq ≤ kj23) ∧ Aside0 (wc.heap[gb102]? = some (.cells #[.int .i64 a0_0, .int .i64 a0_1, .int .u8 a0_2, .int .u16 a0_3, .int .u16 a0_4, .int .i64 a0_5, .int .i64 a0_6, .int .i64 a0_7, .int .i64 a0_8, .int .i64 a0_9, .int .i64 a0_10, .int .i64 a0_11, .int .i64 a0_12, .int .i64 a0_13, .int .i64 a0_14, .bool a0_15] 24 (0, 0))) ∧ Aside0 (Below w.heap.size w wc))
                          case first =>
                            have H := HC43.out
                            clear HC43
                            by_cases c44 : a0_13 < 1
                            · rw [if_pos c44] at H
                              have c44b0 : decide (a0_13 < 1) = true := decide_eq_true c44
                              clear c44
                              (first | rw [c44b0] | (simp only [i64_w, i32_w]; rw [c44b0]) | skip)
                              have H' := Aside0.mk H
                              clear H
                              have hcz45_0 : wc.cell? ⟨gb102, 0, none⟩ = some (.int .i64 a0_0) := (blk_cell BK102.out 0).trans rfl
                              have hcz45_1 : wc.cell? ⟨gb102, 1, none⟩ = some (.int .i64 a0_1) := (blk_cell BK102.out 1).trans rfl
                              have hcz45_2 : wc.cell? ⟨gb102, 2, none⟩ = some (.int .u8 a0_2) := (blk_cell BK102.out 2).trans rfl
                              have hcz45_3 : wc.cell? ⟨gb102, 3, none⟩ = some (.int .u16 a0_3) := (blk_cell BK102.out 3).trans rfl
                              have hcz45_4 : wc.cell? ⟨gb102, 4, none⟩ = some (.int .u16 a0_4) := (blk_cell BK102.out 4).trans rfl
                              have hcz45_5 : wc.cell? ⟨gb102, 5, none⟩ = some (.int .i64 a0_5) := (blk_cell BK102.out 5).trans rfl
                              have hcz45_6 : wc.cell? ⟨gb102, 6, none⟩ = some (.int .i64 a0_6) := (blk_cell BK102.out 6).trans rfl
                              have hcz45_7 : wc.cell? ⟨gb102, 7, none⟩ = some (.int .i64 a0_7) := (blk_cell BK102.out 7).trans rfl
                              have hcz45_8 : wc.cell? ⟨gb102, 8, none⟩ = some (.int .i64 a0_8) := (blk_cell BK102.out 8).trans rfl
                              have hcz45_9 : wc.cell? ⟨gb102, 9, none⟩ = some (.int .i64 a0_9) := (blk_cell BK102.out 9).trans rfl
                              have hcz45_10 : wc.cell? ⟨gb102, 10, none⟩ = some (.int .i64 a0_10) := (blk_cell BK102.out 10).trans rfl
                              have hcz45_11 : wc.cell? ⟨gb102, 11, none⟩ = some (.int .i64 a0_11) := (blk_cell BK102.out 11).trans rfl
                              have hcz45_12 : wc.cell? ⟨gb102, 12, none⟩ = some (.int .i64 a0_12) := (blk_cell BK102.out 12).trans rfl
                              have hcz45_13 : wc.cell? ⟨gb102, 13, none⟩ = some (.int .i64 a0_13) := (blk_cell BK102.out 13).trans rfl
                              have hcz45_14 : wc.cell? ⟨gb102, 14, none⟩ = some (.int .i64 a0_14) := (blk_cell BK102.out 14).trans rfl
                              have hcz45_15 : wc.cell? ⟨gb102, 15, none⟩ = some (.bool a0_15) := (blk_cell BK102.out 15).trans rfl
                              have hfz45_0 := blk_frozen BK102.out 0
                              have hfz45_1 := blk_frozen BK102.out 1
                              have hfz45_2 := blk_frozen BK102.out 2
                              have hfz45_3 := blk_frozen BK102.out 3
                              have hfz45_4 := blk_frozen BK102.out 4
                              have hfz45_5 := blk_frozen BK102.out 5
                              have hfz45_6 := blk_frozen BK102.out 6
                              have hfz45_7 := blk_frozen BK102.out 7
                              have hfz45_8 := blk_frozen BK102.out 8
                              have hfz45_9 := blk_frozen BK102.out 9
                              have hfz45_10 := blk_frozen BK102.out 10
                              have hfz45_11 := blk_frozen BK102.out 11
                              have hfz45_12 := blk_frozen BK102.out 12
                              have hfz45_13 := blk_frozen BK102.out 13
                              have hfz45_14 := blk_frozen BK102.out 14
                              have hfz45_15 := blk_frozen BK102.out 15
                              go_wp2
                              go_meet
                              case rel => exact ⟨_, (true), (by first | rfl | (simp; done) | (simp [*]; done)), H', ⟨by have := HJ1.out; have := HJ7.out; have := HJ14.out; have := HJ23.out; first | omega | exact Nat.le_refl _⟩, ⟨by (with_reducible repeat (first | refine blk_drewN ?_ _ | refine blk_drew ?_ | refine blk_alloc ?_ _)); exact BK102.out⟩, ⟨by repeat (first | (with_reducible first | exact HB.out | apply below_alloc | apply pw_below_drewN | apply below_drew1 | refine below_set ?_ GE102.out) | exact HB.out)⟩⟩
                            · rw [if_neg c44] at H
                              have c44b0 : decide (a0_13 < 1) = false := decide_eq_false c44
                              clear c44
                              (first | rw [c44b0] | (simp only [i64_w, i32_w]; rw [c44b0]) | skip)
                              by_cases c46 : a0_13 > 1024
                              · rw [if_pos c46] at H
                                have c46b0 : decide (1024 < a0_13) = true := decide_eq_true c46
                                clear c46
                                have H' := Aside0.mk H
                                clear H
                                have hcz47_0 : wc.cell? ⟨gb102, 0, none⟩ = some (.int .i64 a0_0) := (blk_cell BK102.out 0).trans rfl
                                have hcz47_1 : wc.cell? ⟨gb102, 1, none⟩ = some (.int .i64 a0_1) := (blk_cell BK102.out 1).trans rfl
                                have hcz47_2 : wc.cell? ⟨gb102, 2, none⟩ = some (.int .u8 a0_2) := (blk_cell BK102.out 2).trans rfl
                                have hcz47_3 : wc.cell? ⟨gb102, 3, none⟩ = some (.int .u16 a0_3) := (blk_cell BK102.out 3).trans rfl
                                have hcz47_4 : wc.cell? ⟨gb102, 4, none⟩ = some (.int .u16 a0_4) := (blk_cell BK102.out 4).trans rfl
                                have hcz47_5 : wc.cell? ⟨gb102, 5, none⟩ = some (.int .i64 a0_5) := (blk_cell BK102.out 5).trans rfl
                                have hcz47_6 : wc.cell? ⟨gb102, 6, none⟩ = some (.int .i64 a0_6) := (blk_cell BK102.out 6).trans rfl
                                have hcz47_7 : wc.cell? ⟨gb102, 7, none⟩ = some (.int .i64 a0_7) := (blk_cell BK102.out 7).trans rfl
                                have hcz47_8 : wc.cell? ⟨gb102, 8, none⟩ = some (.int .i64 a0_8) := (blk_cell BK102.out 8).trans rfl
                                have hcz47_9 : wc.cell? ⟨gb102, 9, none⟩ = some (.int .i64 a0_9) := (blk_cell BK102.out 9).trans rfl
                                have hcz47_10 : wc.cell? ⟨gb102, 10, none⟩ = some (.int .i64 a0_10) := (blk_cell BK102.out 10).trans rfl
                                have hcz47_11 : wc.cell? ⟨gb102, 11, none⟩ = some (.int .i64 a0_11) := (blk_cell BK102.out 11).trans rfl
                                have hcz47_12 : wc.cell? ⟨gb102, 12, none⟩ = some (.int .i64 a0_12) := (blk_cell BK102.out 12).trans rfl
                                have hcz47_13 : wc.cell? ⟨gb102, 13, none⟩ = some (.int .i64 a0_13) := (blk_cell BK102.out 13).trans rfl
                                have hcz47_14 : wc.cell? ⟨gb102, 14, none⟩ = some (.int .i64 a0_14) := (blk_cell BK102.out 14).trans rfl
                                have hcz47_15 : wc.cell? ⟨gb102, 15, none⟩ = some (.bool a0_15) := (blk_cell BK102.out 15).trans rfl
                                have hfz47_0 := blk_frozen BK102.out 0
                                have hfz47_1 := blk_frozen BK102.out 1
                                have hfz47_2 := blk_frozen BK102.out 2
                                have hfz47_3 := blk_frozen BK102.out 3
                                have hfz47_4 := blk_frozen BK102.out 4
                                have hfz47_5 := blk_frozen BK102.out 5
                                have hfz47_6 := blk_frozen BK102.out 6
                                have hfz47_7 := blk_frozen BK102.out 7
                                have hfz47_8 := blk_frozen BK102.out 8
                                have hfz47_9 := blk_frozen BK102.out 9
                                have hfz47_10 := blk_frozen BK102.out 10
                                have hfz47_11 := blk_frozen BK102.out 11
                                have hfz47_12 := blk_frozen BK102.out 12
                                have hfz47_13 := blk_frozen BK102.out 13
                                have hfz47_14 := blk_frozen BK102.out 14
                                have hfz47_15 := blk_frozen BK102.out 15
                                go_wp2
                                go_meet
                                case rel => exact ⟨_, (true), (by first | rfl | (simp; done) | (simp [*]; done)), H', ⟨by have := HJ1.out; have := HJ7.out; have := HJ14.out; have := HJ23.out; first | omega | exact Nat.le_refl _⟩, ⟨by (with_reducible repeat (first | refine blk_drewN ?_ _ | refine blk_drew ?_ | refine blk_alloc ?_ _)); exact BK102.out⟩, ⟨by repeat (first | (with_reducible first | exact HB.out | apply below_alloc | apply pw_below_drewN | apply below_drew1 | refine below_set ?_ GE102.out) | exact HB.out)⟩⟩
                              · rw [if_neg c46] at H
                                have c46b0 : decide (1024 < a0_13) = false := decide_eq_false c46
                                clear c46
                                by_cases c48 : a0_14 < 1
                                · rw [if_pos c48] at H
                                  have c48b0 : decide (a0_14 < 1) = true := decide_eq_true c48
                                  clear c48
                                  have H' := Aside0.mk H
                                  clear H
                                  have hcz49_0 : wc.cell? ⟨gb102, 0, none⟩ = some (.int .i64 a0_0) := (blk_cell BK102.out 0).trans rfl
                                  have hcz49_1 : wc.cell? ⟨gb102, 1, none⟩ = some (.int .i64 a0_1) := (blk_cell BK102.out 1).trans rfl
                                  have hcz49_2 : wc.cell? ⟨gb102, 2, none⟩ = some (.int .u8 a0_2) := (blk_cell BK102.out 2).trans rfl
                                  have hcz49_3 : wc.cell? ⟨gb102, 3, none⟩ = some (.int .u16 a0_3) := (blk_cell BK102.out 3).trans rfl
                                  have hcz49_4 : wc.cell? ⟨gb102, 4, none⟩ = some (.int .u16 a0_4) := (blk_cell BK102.out 4).trans rfl
                                  have hcz49_5 : wc.cell? ⟨gb102, 5, none⟩ = some (.int .i64 a0_5) := (blk_cell BK102.out 5).trans rfl
                                  have hcz49_6 : wc.cell? ⟨gb102, 6, none⟩ = some (.int .i64 a0_6) := (blk_cell BK102.out 6).trans rfl
                                  have hcz49_7 : wc.cell? ⟨gb102, 7, none⟩ = some (.int .i64 a0_7) := (blk_cell BK102.out 7).trans rfl
                                  have hcz49_8 : wc.cell? ⟨gb102, 8, none⟩ = some (.int .i64 a0_8) := (blk_cell BK102.out 8).trans rfl
                                  have hcz49_9 : wc.cell? ⟨gb102, 9, none⟩ = some (.int .i64 a0_9) := (blk_cell BK102.out 9).trans rfl
                                  have hcz49_10 : wc.cell? ⟨gb102, 10, none⟩ = some (.int .i64 a0_10) := (blk_cell BK102.out 10).trans rfl
                                  have hcz49_11 : wc.cell? ⟨gb102, 11, none⟩ = some (.int .i64 a0_11) := (blk_cell BK102.out 11).trans rfl
                                  have hcz49_12 : wc.cell? ⟨gb102, 12, none⟩ = some (.int .i64 a0_12) := (blk_cell BK102.out 12).trans rfl
                                  have hcz49_13 : wc.cell? ⟨gb102, 13, none⟩ = some (.int .i64 a0_13) := (blk_cell BK102.out 13).trans rfl
                                  have hcz49_14 : wc.cell? ⟨gb102, 14, none⟩ = some (.int .i64 a0_14) := (blk_cell BK102.out 14).trans rfl
                                  have hcz49_15 : wc.cell? ⟨gb102, 15, none⟩ = some (.bool a0_15) := (blk_cell BK102.out 15).trans rfl
                                  have hfz49_0 := blk_frozen BK102.out 0
                                  have hfz49_1 := blk_frozen BK102.out 1
                                  have hfz49_2 := blk_frozen BK102.out 2
                                  have hfz49_3 := blk_frozen BK102.out 3
                                  have hfz49_4 := blk_frozen BK102.out 4
                                  have hfz49_5 := blk_frozen BK102.out 5
                                  have hfz49_6 := blk_frozen BK102.out 6
                                  have hfz49_7 := blk_frozen BK102.out 7
                                  have hfz49_8 := blk_frozen BK102.out 8
                                  have hfz49_9 := blk_frozen BK102.out 9
                                  have hfz49_10 := blk_frozen BK102.out 10
                                  have hfz49_11 := blk_frozen BK102.out 11
                                  have hfz49_12 := blk_frozen BK102.out 12
                                  have hfz49_13 := blk_frozen BK102.out 13
                                  have hfz49_14 := blk_frozen BK102.out 14
                                  have hfz49_15 := blk_frozen BK102.out 15
                                  go_wp2
                                  go_meet
                                  case rel => exact ⟨_, (true), (by first | rfl | (simp; done) | (simp [*]; done)), H', ⟨by have := HJ1.out; have := HJ7.out; have := HJ14.out; have := HJ23.out; first | omega | exact Nat.le_refl _⟩, ⟨by (with_reducible repeat (first | refine blk_drewN ?_ _ | refine blk_drew ?_ | refine blk_alloc ?_ _)); exact BK102.out⟩, ⟨by repeat (first | (with_reducible first | exact HB.out | apply below_alloc | apply pw_below_drewN | apply below_drew1 | refine below_set ?_ GE102.out) | exact HB.out)⟩⟩
                                · rw [if_neg c48] at H
                                  have c48b0 : decide (a0_14 < 1) = false := decide_eq_false c48
                                  clear c48
                                  have H' := Aside0.mk H
                                  clear H
                                  have hcz50_0 : wc.cell? ⟨gb102, 0, none⟩ = some (.int .i64 a0_0) := (blk_cell BK102.out 0).trans rfl
                                  have hcz50_1 : wc.cell? ⟨gb102, 1, none⟩ = some (.int .i64 a0_1) := (blk_cell BK102.out 1).trans rfl
                                  have hcz50_2 : wc.cell? ⟨gb102, 2, none⟩ = some (.int .u8 a0_2) := (blk_cell BK102.out 2).trans rfl
                                  have hcz50_3 : wc.cell? ⟨gb102, 3, none⟩ = some (.int .u16 a0_3) := (blk_cell BK102.out 3).trans rfl
                                  have hcz50_4 : wc.cell? ⟨gb102, 4, none⟩ = some (.int .u16 a0_4) := (blk_cell BK102.out 4).trans rfl
                                  have hcz50_5 : wc.cell? ⟨gb102, 5, none⟩ = some (.int .i64 a0_5) := (blk_cell BK102.out 5).trans rfl
                                  have hcz50_6 : wc.cell? ⟨gb102, 6, none⟩ = some (.int .i64 a0_6) := (blk_cell BK102.out 6).trans rfl
                                  have hcz50_7 : wc.cell? ⟨gb102, 7, none⟩ = some (.int .i64 a0_7) := (blk_cell BK102.out 7).trans rfl
                                  have hcz50_8 : wc.cell? ⟨gb102, 8, none⟩ = some (.int .i64 a0_8) := (blk_cell BK102.out 8).trans rfl
                                  have hcz50_9 : wc.cell? ⟨gb102, 9, none⟩ = some (.int .i64 a0_9) := (blk_cell BK102.out 9).trans rfl
                                  have hcz50_10 : wc.cell? ⟨gb102, 10, none⟩ = some (.int .i64 a0_10) := (blk_cell BK102.out 10).trans rfl
                                  have hcz50_11 : wc.cell? ⟨gb102, 11, none⟩ = some (.int .i64 a0_11) := (blk_cell BK102.out 11).trans rfl
                                  have hcz50_12 : wc.cell? ⟨gb102, 12, none⟩ = some (.int .i64 a0_12) := (blk_cell BK102.out 12).trans rfl
                                  have hcz50_13 : wc.cell? ⟨gb102, 13, none⟩ = some (.int .i64 a0_13) := (blk_cell BK102.out 13).trans rfl
                                  have hcz50_14 : wc.cell? ⟨gb102, 14, none⟩ = some (.int .i64 a0_14) := (blk_cell BK102.out 14).trans rfl
                                  have hcz50_15 : wc.cell? ⟨gb102, 15, none⟩ = some (.bool a0_15) := (blk_cell BK102.out 15).trans rfl
                                  have hfz50_0 := blk_frozen BK102.out 0
                                  have hfz50_1 := blk_frozen BK102.out 1
                                  have hfz50_2 := blk_frozen BK102.out 2
                                  have hfz50_3 := blk_frozen BK102.out 3
                                  have hfz50_4 := blk_frozen BK102.out 4
                                  have hfz50_5 := blk_frozen BK102.out 5
                                  have hfz50_6 := blk_frozen BK102.out 6
                                  have hfz50_7 := blk_frozen BK102.out 7
                                  have hfz50_8 := blk_frozen BK102.out 8
                                  have hfz50_9 := blk_frozen BK102.out 9
                                  have hfz50_10 := blk_frozen BK102.out 10
                                  have hfz50_11 := blk_frozen BK102.out 11
                                  have hfz50_12 := blk_frozen BK102.out 12
                                  have hfz50_13 := blk_frozen BK102.out 13
                                  have hfz50_14 := blk_frozen BK102.out 14
                                  have hfz50_15 := blk_frozen BK102.out 15
                                  go_wp2
                                  go_meet
                                  case rel => exact ⟨_, (decide (a0_14 > 256)), (by first | rfl | (simp; done) | (simp [*]; done)), H', ⟨by have := HJ1.out; have := HJ7.out; have := HJ14.out; have := HJ23.out; first | omega | exact Nat.le_refl _⟩, ⟨by (with_reducible repeat (first | refine blk_drewN ?_ _ | refine blk_drew ?_ | refine blk_alloc ?_ _)); exact BK102.out⟩, ⟨by repeat (first | (with_reducible first | exact HB.out | apply below_alloc | apply pw_below_drewN | apply below_drew1 | refine below_set ?_ GE102.out) | exact HB.out)⟩⟩
                          case rest =>
                            clear HC43
                            try clear p2
                            try clear c4
                            try clear c42
                            try clear c44
                            try clear c44b0
                            try clear c46
                            try clear c46b0
                            try clear c48
                            try clear c48b0
                            try clear hcz12_12
                            try clear hcz12_13
                            try clear hcz12_14
                            try clear hcz12_15
                            try clear hcz12_2
                            try clear hcz12_3
                            try clear hcz12_4
                            try clear hcz12_5
                            try clear hcz12_6
                            try clear hcz12_7
                            try clear hcz12_8
                            try clear hcz12_9
                            try clear hcz13_0
                            try clear hcz13_1
                            try clear hcz13_10
                            try clear hcz13_11
                            try clear hcz13_12
                            try clear hcz13_13
                            try clear hcz13_14
                            try clear hcz13_15
                            try clear hcz13_2
                            try clear hcz13_3
                            try clear hcz13_4
                            try clear hcz13_5
                            try clear hcz13_6
                            try clear hcz13_7
                            try clear hcz13_8
                            try clear hcz13_9
                            try clear hcz20_0
                            try clear hcz20_1
                            try clear hcz20_10
                            try clear hcz20_11
                            try clear hcz20_12
                            try clear hcz20_13
                            try clear hcz20_14
                            try clear hcz20_15
                            try clear hcz20_2
                            try clear hcz20_3
                            try clear hcz20_4
                            try clear hcz20_5
                            try clear hcz20_6
                            try clear hcz20_7
                            try clear hcz20_8
                            try clear hcz20_9
                            try clear hcz21_0
                            try clear hcz21_1
                            try clear hcz21_10
                            try clear hcz21_11
                            try clear hcz21_12
                            try clear hcz21_13
                            try clear hcz21_14
                            try clear hcz21_15
                            try clear hcz21_2
                            try clear hcz21_3
                            try clear hcz21_4
                            try clear hcz21_5
                            try clear hcz21_6
                            try clear hcz21_7
                            try clear hcz21_8
                            try clear hcz21_9
                            try clear hcz22_0
                            try clear hcz22_1
                            try clear hcz22_10
                            try clear hcz22_11
                            try clear hcz22_12
                            try clear hcz22_13
                            try clear hcz22_14
                            try clear hcz22_15
                            try clear hcz22_2
                            try clear hcz22_3
                            try clear hcz22_4
                            try clear hcz22_5
                            try clear hcz22_6
                            try clear hcz22_7
                            try clear hcz22_8
                            try clear hcz22_9
                            try clear hcz28_0
                            try clear hcz28_1
                            try clear hcz28_10
                            try clear hcz28_11
                            try clear hcz28_12
                            try clear hcz28_13
                            try clear hcz28_14
                            try clear hcz28_15
                            try clear hcz28_2
                            try clear hcz28_3
                            try clear hcz28_4
                            try clear hcz28_5
                            try clear hcz28_6
                            try clear hcz28_7
                            try clear hcz28_8
                            try clear hcz28_9
                            try clear hcz32_0
                            try clear hcz32_1
                            try clear hcz32_10
                            try clear hcz32_11
                            try clear hcz32_12
                            try clear hcz32_13
                            try clear hcz32_14
                            try clear hcz32_15
                            try clear hcz32_2
                            try clear hcz32_3
                            try clear hcz32_4
                            try clear hcz32_5
                            try clear hcz32_6
                            try clear hcz32_7
                            try clear hcz32_8
                            try clear hcz32_9
                            try clear hcz33_0
                            try clear hcz33_1
                            try clear hcz33_10
                            try clear hcz33_11
                            try clear hcz33_12
                            try clear hcz33_13
                            try clear hcz33_14
                            try clear hcz33_15
                            try clear hcz33_2
                            try clear hcz33_3
                            try clear hcz33_4
                            try clear hcz33_5
                            try clear hcz33_6
                            try clear hcz33_7
                            try clear hcz33_8
                            try clear hcz33_9
                            try clear hcz37_0
                            try clear hcz37_1
                            try clear hcz37_10
                            try clear hcz37_11
                            try clear hcz37_12
                            try clear hcz37_13
                            try clear hcz37_14
                            try clear hcz37_15
                            try clear hcz37_2
                            try clear hcz37_3
                            try clear hcz37_4
                            try clear hcz37_5
                            try clear hcz37_6
                            try clear hcz37_7
                            try clear hcz37_8
                            try clear hcz37_9
                            try clear hcz38_0
                            try clear hcz38_1
                            try clear hcz38_10
                            try clear hcz38_11
                            try clear hcz38_12
                            try clear hcz38_13
                            try clear hcz38_14
                            try clear hcz38_15
                            try clear hcz38_2
                            try clear hcz38_3
                            try clear hcz38_4
                            try clear hcz38_5
                            try clear hcz38_6
                            try clear hcz38_7
                            try clear hcz38_8
                            try clear hcz38_9
                            try clear hcz45_0
                            try clear hcz45_1
                            try clear hcz45_10
                            try clear hcz45_11
                            try clear hcz45_12
                            try clear hcz45_13
                            try clear hcz45_14
                            try clear hcz45_15
                            try clear hcz45_2
                            try clear hcz45_3
                            try clear hcz45_4
                            try clear hcz45_5
                            try clear hcz45_6
                            try clear hcz45_7
                            try clear hcz45_8
                            try clear hcz45_9
                            try clear hcz47_0
                            try clear hcz47_1
                            try clear hcz47_10
                            try clear hcz47_11
                            try clear hcz47_12
                            try clear hcz47_13
                            try clear hcz47_14
                            try clear hcz47_15
                            try clear hcz47_2
                            try clear hcz47_3
                            try clear hcz47_4
                            try clear hcz47_5
                            try clear hcz47_6
                            try clear hcz47_7
                            try clear hcz47_8
                            try clear hcz47_9
                            try clear hcz49_0
                            try clear hcz49_1
                            try clear hcz49_10
                            try clear hcz49_11
                            try clear hcz49_12
                            try clear hcz49_13
                            try clear hcz49_14
                            try clear hcz49_15
                            try clear hcz49_2
                            try clear hcz49_3
                            try clear hcz49_4
                            try clear hcz49_5
                            try clear hcz49_6
                            try clear hcz49_7
                            try clear hcz49_8
                            try clear hcz49_9
                            try clear hcz50_0
                            try clear hcz50_1
                            try clear hcz50_10
                            try clear hcz50_11
                            try clear hcz50_12
                            try clear hcz50_13
                            try clear hcz50_14
                            try clear hcz50_15
                            try clear hcz50_2
                            try clear hcz50_3
                            try clear hcz50_4
                            try clear hcz50_5
                            try clear hcz50_6
                            try clear hcz50_7
                            try clear hcz50_8
                            try clear hcz50_9
                            try clear hcz5_0
                            try clear hcz5_1
                            try clear hcz5_10
                            try clear hcz5_11
                            try clear hcz5_12
                            try clear hcz5_13
                            try clear hcz5_14
                            try clear hcz5_15
                            try clear hcz5_2
                            try clear hcz5_3
                            try clear hcz5_4
                            try clear hcz5_5
                            try clear hcz5_6
                            try clear hcz5_7
                            try clear hcz5_8
                            try clear hcz5_9
                            try clear hcz6_0
                            try clear hcz6_1
                            try clear hcz6_10
                            try clear hcz6_11
                            try clear hcz6_12
                            try clear hcz6_13
                            try clear hcz6_14
                            try clear hcz6_15
                            try clear hcz6_2
                            try clear hcz6_3
                            try clear hcz6_4
                            try clear hcz6_5
                            try clear hcz6_6
                            try clear hcz6_7
                            try clear hcz6_8
                            try clear hcz6_9
                            try clear hfz10_0
                            try clear hfz10_1
                            try clear hfz10_10
                            try clear hfz10_11
                            try clear hfz10_12
                            try clear hfz10_13
                            try clear hfz10_14
                            try clear hfz10_15
                            try clear hfz10_2
                            try clear hfz10_3
                            try clear hfz10_4
                            try clear hfz10_5
                            try clear hfz10_6
                            try clear hfz10_7
                            try clear hfz10_8
                            try clear hfz10_9
                            try clear hfz12_0
                            try clear hfz12_1
                            try clear hfz12_10
                            try clear hfz12_11
                            try clear hfz12_12
                            try clear hfz12_13
                            try clear hfz12_14
                            try clear hfz12_15
                            try clear hfz12_2
                            try clear hfz12_3
                            try clear hfz12_4
                            try clear hfz12_5
                            try clear hfz12_6
                            try clear hfz12_7
                            try clear hfz12_8
                            try clear hfz12_9
                            try clear hfz13_0
                            try clear hfz13_1
                            try clear hfz13_10
                            try clear hfz13_11
                            try clear hfz13_12
                            try clear hfz13_13
                            try clear hfz13_14
                            try clear hfz13_15
                            try clear hfz13_2
                            try clear hfz13_3
                            try clear hfz13_4
                            try clear hfz13_5
                            try clear hfz13_6
                            try clear hfz13_7
                            try clear hfz13_8
                            try clear hfz13_9
                            try clear hfz20_0
                            try clear hfz20_1
                            try clear hfz20_10
                            try clear hfz20_11
                            try clear hfz20_12
                            try clear hfz20_13
                            try clear hfz20_14
                            try clear hfz20_15
                            try clear hfz20_2
                            try clear hfz20_3
                            try clear hfz20_4
                            try clear hfz20_5
                            try clear hfz20_6
                            try clear hfz20_7
                            try clear hfz20_8
                            try clear hfz20_9
                            try clear hfz21_0
                            try clear hfz21_1
                            try clear hfz21_10
                            try clear hfz21_11
                            try clear hfz21_12
                            try clear hfz21_13
                            try clear hfz21_14
                            try clear hfz21_15
                            try clear hfz21_2
                            try clear hfz21_3
                            try clear hfz21_4
                            try clear hfz21_5
                            try clear hfz21_6
                            try clear hfz21_7
                            try clear hfz21_8
                            try clear hfz21_9
                            try clear hfz22_0
                            try clear hfz22_1
                            try clear hfz22_10
                            try clear hfz22_11
                            try clear hfz22_12
                            try clear hfz22_13
                            try clear hfz22_14
                            try clear hfz22_15
                            try clear hfz22_2
                            try clear hfz22_3
                            try clear hfz22_4
                            try clear hfz22_5
                            try clear hfz22_6
                            try clear hfz22_7
                            try clear hfz22_8
                            try clear hfz22_9
                            try clear hfz28_0
                            try clear hfz28_1
                            try clear hfz28_10
                            try clear hfz28_11
                            try clear hfz28_12
                            try clear hfz28_13
                            try clear hfz28_14
                            try clear hfz28_15
                            try clear hfz28_2
                            try clear hfz28_3
                            try clear hfz28_4
                            try clear hfz28_5
                            try clear hfz28_6
                            try clear hfz28_7
                            try clear hfz28_8
                            try clear hfz28_9
                            try clear hfz32_0
                            try clear hfz32_1
                            try clear hfz32_10
                            try clear hfz32_11
                            try clear hfz32_12
                            try clear hfz32_13
                            try clear hfz32_14
                            try clear hfz32_15
                            try clear hfz32_2
                            try clear hfz32_3
                            try clear hfz32_4
                            try clear hfz32_5
                            try clear hfz32_6
                            try clear hfz32_7
                            try clear hfz32_8
                            try clear hfz32_9
                            try clear hfz33_0
                            try clear hfz33_1
                            try clear hfz33_10
                            try clear hfz33_11
                            try clear hfz33_12
                            try clear hfz33_13
                            try clear hfz33_14
                            try clear hfz33_15
                            try clear hfz33_2
                            try clear hfz33_3
                            try clear hfz33_4
                            try clear hfz33_5
                            try clear hfz33_6
                            try clear hfz33_7
                            try clear hfz33_8
                            try clear hfz33_9
                            try clear hfz37_0
                            try clear hfz37_1
                            try clear hfz37_10
                            try clear hfz37_11
                            try clear hfz37_12
                            try clear hfz37_13
                            try clear hfz37_14
                            try clear hfz37_15
                            try clear hfz37_2
                            try clear hfz37_3
                            try clear hfz37_4
                            try clear hfz37_5
                            try clear hfz37_6
                            try clear hfz37_7
                            try clear hfz37_8
                            try clear hfz37_9
                            try clear hfz38_0
                            try clear hfz38_1
                            try clear hfz38_10
                            try clear hfz38_11
                            try clear hfz38_12
                            try clear hfz38_13
                            try clear hfz38_14
                            try clear hfz38_15
                            try clear hfz38_2
                            try clear hfz38_3
                            try clear hfz38_4
                            try clear hfz38_5
                            try clear hfz38_6
                            try clear hfz38_7
                            try clear hfz38_8
                            try clear hfz38_9
                            try clear hfz45_0
                            try clear hfz45_1
                            try clear hfz45_10
                            try clear hfz45_11
                            try clear hfz45_12
                            try clear hfz45_13
                            try clear hfz45_14
                            try clear hfz45_15
                            try clear hfz45_2
                            try clear hfz45_3
                            try clear hfz45_4
                            try clear hfz45_5
                            try clear hfz45_6
                            try clear hfz45_7
                            try clear hfz45_8
                            try clear hfz45_9
                            try clear hfz47_0
                            try clear hfz47_1
                            try clear hfz47_10
                            try clear hfz47_11
                            try clear hfz47_12
                            try clear hfz47_13
                            try clear hfz47_14
                            try clear hfz47_15
                            try clear hfz47_2
                            try clear hfz47_3
                            try clear hfz47_4
                            try clear hfz47_5
                            try clear hfz47_6
                            try clear hfz47_7
                            try clear hfz47_8
                            try clear hfz47_9
                            try clear hfz49_0
                            try clear hfz49_1
                            try clear hfz49_10
                            try clear hfz49_11
                            try clear hfz49_12
                            try clear hfz49_13
                            try clear hfz49_14
                            try clear hfz49_15
                            try clear hfz49_2
                            try clear hfz49_3
                            try clear hfz49_4
                            try clear hfz49_5
                            try clear hfz49_6
                            try clear hfz49_7
                            try clear hfz49_8
                            try clear hfz49_9
                            try clear hfz50_0
                            try clear hfz50_1
                            try clear hfz50_10
                            try clear hfz50_11
                            try clear hfz50_12
                            try clear hfz50_13
                            try clear hfz50_14
                            try clear hfz50_15
                            try clear hfz50_2
                            try clear hfz50_3
                            try clear hfz50_4
                            try clear hfz50_5
                            try clear hfz50_6
                            try clear hfz50_7
                            try clear hfz50_8
                            try clear hfz50_9
                            try clear hfz5_0
                            try clear hfz5_1
                            try clear hfz5_10
                            try clear hfz5_11
                            try clear hfz5_12
                            try clear hfz5_13
                            try clear hfz5_14
                            try clear hfz5_15
                            try clear hfz5_2
                            try clear hfz5_3
                            try clear hfz5_4
                            try clear hfz5_5
                            try clear hfz5_6
                            try clear hfz5_7
                            try clear hfz5_8
                            try clear hfz5_9
                            try clear hfz6_0
                            try clear hfz6_1
                            try clear hfz6_10
                            try clear hfz6_11
                            try clear hfz6_12
                            try clear hfz6_13
                            try clear hfz6_14
                            try clear hfz6_15
                            try clear hfz6_2
                            try clear hfz6_3
                            try clear hfz6_4
                            try clear hfz6_5
                            try clear hfz6_6
                            try clear hfz6_7
                            try clear hfz6_8
                            try clear hfz6_9
                            try clear p2
                            obtain ⟨kq, x74_42, rfl, HA, HJ42, BK102, HB⟩ := hcut
                            cases kq with
                            | zero => exact absurd HA.out (by simp [plan_Plan_Check.j4])
                            | succ kj42 =>
                              have H := HA.out
                              clear HA
                              simp only [plan_Plan_Check.j4] at H
                              by_cases c51 : x74_42 = true
                              · subst c51
                                have H1 : (some 4) = some r := by rw [if_pos rfl] at H; exact H
                                clear H
                                have H := H1
                                clear H1
                                obtain rfl := Option.some.inj H
                                go_wp2
                                go_ret
                                exact ⟨by first | rfl | (simp [errW_none, errW_some] <;> rfl) | (simp [*, errW_none, errW_some] <;> rfl), by repeat (first | (with_reducible first | exact HB.out | apply below_alloc | apply pw_below_drewN | apply below_drew1 | refine below_set ?_ GE102.out) | exact HB.out)⟩
                              · replace c51 := Bool.eq_false_iff.mpr c51
                                subst c51
                                have H1 : (some 0) = some r := by rw [if_neg (show ¬ (false = true) by decide)] at H; exact H
                                clear H
                                have H := H1
                                clear H1
                                obtain rfl := Option.some.inj H
                                go_wp2
                                go_ret
                                exact ⟨by first | rfl | (simp [errW_none, errW_some] <;> rfl) | (simp [*, errW_none, errW_some] <;> rfl), by repeat (first | (with_reducible first | exact HB.out | apply below_alloc | apply pw_below_drewN | apply below_drew1 | refine below_set ?_ GE102.out) | exact HB.out)⟩

end Go.Proofs.Ytapicoienpbdfaa.PPlanRings
