-- Written by a program of this work, after the translation.
import Derived.Test.YtmdaaphjndjakafPPlanChecksx0
namespace Go.Proofs.Ytmdaaphjndjakaf.PPlanChecks
open Go.RowKit Go.Proofs.YtmdaaphjndjakafW.PrintWords Go.Proofs.YtmdaaphjndjakafW.PrintLast Go.Proofs.YtmdaaphjndjakafW.PrintMore
attribute [local go_sem] max2_int min2_int max_two min_two max_three min_three max_four min_four   -- for this text's walks alone
set_option linter.unusedVariables false
set_option linter.unusedSimpArgs false

/-! ### carouselref16_Check: function 32 -/
mutual
def carouselref16_Check.j0 : Nat → Bool → Int → Int → Int → Int → Int → Int → Int → Int → Int → Int → Int → Int → Int → Int → Int → Bool → Option (Int)
  | 0, _, _, _, _, _, _, _, _, _, _, _, _, _, _, _, _, _ => none
  | k + 1, x31, x183000, x183001, x183002, x183003, x183004, x183005, x183006, x183007, x183008, x183009, x183010, x183011, x183012, x183013, x183014, x183015 => if x31 = true then (some 4) else (if x183003 = 0 then (carouselref16_Check.j1 k true x183000 x183001 x183002 x183003 x183004 x183005 x183006 x183007 x183008 x183009 x183010 x183011 x183012 x183013 x183014 x183015) else (if x183003 > 4094 then (carouselref16_Check.j1 k true x183000 x183001 x183002 x183003 x183004 x183005 x183006 x183007 x183008 x183009 x183010 x183011 x183012 x183013 x183014 x183015) else (if x183004 = 0 then (carouselref16_Check.j1 k true x183000 x183001 x183002 x183003 x183004 x183005 x183006 x183007 x183008 x183009 x183010 x183011 x183012 x183013 x183014 x183015) else (if x183004 > 4094 then (carouselref16_Check.j1 k true x183000 x183001 x183002 x183003 x183004 x183005 x183006 x183007 x183008 x183009 x183010 x183011 x183012 x183013 x183014 x183015) else (carouselref16_Check.j1 k (x183003 == x183004) x183000 x183001 x183002 x183003 x183004 x183005 x183006 x183007 x183008 x183009 x183010 x183011 x183012 x183013 x183014 x183015)))))
def carouselref16_Check.j1 : Nat → Bool → Int → Int → Int → Int → Int → Int → Int → Int → Int → Int → Int → Int → Int → Int → Int → Bool → Option (Int)
  | 0, _, _, _, _, _, _, _, _, _, _, _, _, _, _, _, _, _ => none
  | k + 1, x56, x183000, x183001, x183002, x183003, x183004, x183005, x183006, x183007, x183008, x183009, x183010, x183011, x183012, x183013, x183014, x183015 => if x56 = true then (some 5) else (carouselref16_Check.l0 k (([x183005, x183007, x183008, x183009, x183010, x183011, x183012, wrap64 (x183006 + 1)] : List Int)) 0 x183000 x183001 x183002 x183003 x183004 x183005 x183006 x183007 x183008 x183009 x183010 x183011 x183012 x183013 x183014 x183015)
def carouselref16_Check.l0 : Nat → List Int → Int → Int → Int → Int → Int → Int → Int → Int → Int → Int → Int → Int → Int → Int → Int → Int → Bool → Option (Int)
  | 0, _, _, _, _, _, _, _, _, _, _, _, _, _, _, _, _, _, _ => none
  | k + 1, x3, x4, x183000, x183001, x183002, x183003, x183004, x183005, x183006, x183007, x183008, x183009, x183010, x183011, x183012, x183013, x183014, x183015 => if x4 < (x3.length : Int) then (if x4 = 7 then (carouselref16_Check.j3 k x3 x4 (1048576 + 1) x183000 x183001 x183002 x183003 x183004 x183005 x183006 x183007 x183008 x183009 x183010 x183011 x183012 x183013 x183014 x183015) else (carouselref16_Check.j3 k x3 x4 1048576 x183000 x183001 x183002 x183003 x183004 x183005 x183006 x183007 x183008 x183009 x183010 x183011 x183012 x183013 x183014 x183015)) else (if x183013 < 1 then (carouselref16_Check.j4 k true) else (if x183013 > 1024 then (carouselref16_Check.j4 k true) else (if x183014 < 1 then (carouselref16_Check.j4 k true) else (carouselref16_Check.j4 k (decide (x183014 > 256))))))
def carouselref16_Check.j3 : Nat → List Int → Int → Int → Int → Int → Int → Int → Int → Int → Int → Int → Int → Int → Int → Int → Int → Int → Int → Bool → Option (Int)
  | 0, _, _, _, _, _, _, _, _, _, _, _, _, _, _, _, _, _, _, _ => none
  | k + 1, x3, x4, x5, x183000, x183001, x183002, x183003, x183004, x183005, x183006, x183007, x183008, x183009, x183010, x183011, x183012, x183013, x183014, x183015 => if 0 ≤ x4 then (if x4 < (x3.length : Int) then (if (rd x3 x4) < 1 then (some 4) else (if (rd x3 x4) > x5 then (some 4) else (carouselref16_Check.l0 k x3 (wrap64 (x4 + 1)) x183000 x183001 x183002 x183003 x183004 x183005 x183006 x183007 x183008 x183009 x183010 x183011 x183012 x183013 x183014 x183015))) else (none)) else (none)
def carouselref16_Check.j4 : Nat → Bool → Option (Int)
  | 0, _ => none
  | k + 1, x115 => if x115 = true then (some 4) else (some 0)
end
def carouselref16_Check.f (k : Nat) (a0_0 : Int) (a0_1 : Int) (a0_2 : Int) (a0_3 : Int) (a0_4 : Int) (a0_5 : Int) (a0_6 : Int) (a0_7 : Int) (a0_8 : Int) (a0_9 : Int) (a0_10 : Int) (a0_11 : Int) (a0_12 : Int) (a0_13 : Int) (a0_14 : Int) (a0_15 : Bool) : Option (Int) := if a0_0 < 3 then (carouselref16_Check.j0 k true a0_0 a0_1 a0_2 a0_3 a0_4 a0_5 a0_6 a0_7 a0_8 a0_9 a0_10 a0_11 a0_12 a0_13 a0_14 a0_15) else (if a0_0 > 16 then (carouselref16_Check.j0 k true a0_0 a0_1 a0_2 a0_3 a0_4 a0_5 a0_6 a0_7 a0_8 a0_9 a0_10 a0_11 a0_12 a0_13 a0_14 a0_15) else (if a0_1 < 0 then (carouselref16_Check.j0 k true a0_0 a0_1 a0_2 a0_3 a0_4 a0_5 a0_6 a0_7 a0_8 a0_9 a0_10 a0_11 a0_12 a0_13 a0_14 a0_15) else (if a0_1 > (wrap64 (a0_0 - 1)) then (carouselref16_Check.j0 k true a0_0 a0_1 a0_2 a0_3 a0_4 a0_5 a0_6 a0_7 a0_8 a0_9 a0_10 a0_11 a0_12 a0_13 a0_14 a0_15) else (carouselref16_Check.j0 k (decide (a0_2 > 7)) a0_0 a0_1 a0_2 a0_3 a0_4 a0_5 a0_6 a0_7 a0_8 a0_9 a0_10 a0_11 a0_12 a0_13 a0_14 a0_15))))
theorem carouselref16_Check.mono_l : ∀ k, (∀ y0 y1 y2 y3 y4 y5 y6 y7 y8 y9 y10 y11 y12 y13 y14 y15 y16, LeO (carouselref16_Check.j0 k y0 y1 y2 y3 y4 y5 y6 y7 y8 y9 y10 y11 y12 y13 y14 y15 y16) (carouselref16_Check.j0 (k + 1) y0 y1 y2 y3 y4 y5 y6 y7 y8 y9 y10 y11 y12 y13 y14 y15 y16)) ∧ (∀ y0 y1 y2 y3 y4 y5 y6 y7 y8 y9 y10 y11 y12 y13 y14 y15 y16, LeO (carouselref16_Check.j1 k y0 y1 y2 y3 y4 y5 y6 y7 y8 y9 y10 y11 y12 y13 y14 y15 y16) (carouselref16_Check.j1 (k + 1) y0 y1 y2 y3 y4 y5 y6 y7 y8 y9 y10 y11 y12 y13 y14 y15 y16)) ∧ (∀ y0 y1 y2 y3 y4 y5 y6 y7 y8 y9 y10 y11 y12 y13 y14 y15 y16 y17, LeO (carouselref16_Check.l0 k y0 y1 y2 y3 y4 y5 y6 y7 y8 y9 y10 y11 y12 y13 y14 y15 y16 y17) (carouselref16_Check.l0 (k + 1) y0 y1 y2 y3 y4 y5 y6 y7 y8 y9 y10 y11 y12 y13 y14 y15 y16 y17)) ∧ (∀ y0 y1 y2 y3 y4 y5 y6 y7 y8 y9 y10 y11 y12 y13 y14 y15 y16 y17 y18, LeO (carouselref16_Check.j3 k y0 y1 y2 y3 y4 y5 y6 y7 y8 y9 y10 y11 y12 y13 y14 y15 y16 y17 y18) (carouselref16_Check.j3 (k + 1) y0 y1 y2 y3 y4 y5 y6 y7 y8 y9 y10 y11 y12 y13 y14 y15 y16 y17 y18)) ∧ (∀ y0, LeO (carouselref16_Check.j4 k y0) (carouselref16_Check.j4 (k + 1) y0))
  | 0 => ⟨fun _ _ _ _ _ _ _ _ _ _ _ _ _ _ _ _ _ r h => by simp [carouselref16_Check.j0] at h, fun _ _ _ _ _ _ _ _ _ _ _ _ _ _ _ _ _ r h => by simp [carouselref16_Check.j1] at h, fun _ _ _ _ _ _ _ _ _ _ _ _ _ _ _ _ _ _ r h => by simp [carouselref16_Check.l0] at h, fun _ _ _ _ _ _ _ _ _ _ _ _ _ _ _ _ _ _ _ r h => by simp [carouselref16_Check.j3] at h, fun _ r h => by simp [carouselref16_Check.j4] at h⟩
  | k + 1 => by
    obtain ⟨ih0, ih1, ih2, ih3, ih4⟩ := carouselref16_Check.mono_l k
    refine ⟨?_, ?_, ?_, ?_, ?_⟩
    · intro y0 y1 y2 y3 y4 y5 y6 y7 y8 y9 y10 y11 y12 y13 y14 y15 y16
      unfold carouselref16_Check.j0
      repeat' first
      | (with_reducible exact ih0 _ _ _ _ _ _ _ _ _ _ _ _ _ _ _ _ _)
      | (with_reducible exact ih1 _ _ _ _ _ _ _ _ _ _ _ _ _ _ _ _ _)
      | (with_reducible exact ih2 _ _ _ _ _ _ _ _ _ _ _ _ _ _ _ _ _ _)
      | (with_reducible exact ih3 _ _ _ _ _ _ _ _ _ _ _ _ _ _ _ _ _ _ _)
      | (with_reducible exact ih4 _)
      | (with_reducible exact LeO.refl _)
      | (with_reducible exact LeO.none _)
      | (with_reducible refine LeO.ite ?_ ?_)
      | (with_reducible refine LeO.bind ?_ (fun _ => ?_))
      | exact ih0 _ _ _ _ _ _ _ _ _ _ _ _ _ _ _ _ _
      | exact ih1 _ _ _ _ _ _ _ _ _ _ _ _ _ _ _ _ _
      | exact ih2 _ _ _ _ _ _ _ _ _ _ _ _ _ _ _ _ _ _
      | exact ih3 _ _ _ _ _ _ _ _ _ _ _ _ _ _ _ _ _ _ _
      | exact ih4 _
      | exact LeO.none _
      | refine LeO.ite ?_ ?_
      | refine LeO.bind ?_ (fun _ => ?_)
    · intro y0 y1 y2 y3 y4 y5 y6 y7 y8 y9 y10 y11 y12 y13 y14 y15 y16
      unfold carouselref16_Check.j1
      repeat' first
      | (with_reducible exact ih0 _ _ _ _ _ _ _ _ _ _ _ _ _ _ _ _ _)
      | (with_reducible exact ih1 _ _ _ _ _ _ _ _ _ _ _ _ _ _ _ _ _)
      | (with_reducible exact ih2 _ _ _ _ _ _ _ _ _ _ _ _ _ _ _ _ _ _)
      | (with_reducible exact ih3 _ _ _ _ _ _ _ _ _ _ _ _ _ _ _ _ _ _ _)
      | (with_reducible exact ih4 _)
      | (with_reducible exact LeO.refl _)
      | (with_reducible exact LeO.none _)
      | (with_reducible refine LeO.ite ?_ ?_)
      | (with_reducible refine LeO.bind ?_ (fun _ => ?_))
      | exact ih0 _ _ _ _ _ _ _ _ _ _ _ _ _ _ _ _ _
      | exact ih1 _ _ _ _ _ _ _ _ _ _ _ _ _ _ _ _ _
      | exact ih2 _ _ _ _ _ _ _ _ _ _ _ _ _ _ _ _ _ _
      | exact ih3 _ _ _ _ _ _ _ _ _ _ _ _ _ _ _ _ _ _ _
      | exact ih4 _
      | exact LeO.none _
      | refine LeO.ite ?_ ?_
      | refine LeO.bind ?_ (fun _ => ?_)
    · intro y0 y1 y2 y3 y4 y5 y6 y7 y8 y9 y10 y11 y12 y13 y14 y15 y16 y17
      unfold carouselref16_Check.l0
      repeat' first
      | (with_reducible exact ih0 _ _ _ _ _ _ _ _ _ _ _ _ _ _ _ _ _)
      | (with_reducible exact ih1 _ _ _ _ _ _ _ _ _ _ _ _ _ _ _ _ _)
      | (with_reducible exact ih2 _ _ _ _ _ _ _ _ _ _ _ _ _ _ _ _ _ _)
      | (with_reducible exact ih3 _ _ _ _ _ _ _ _ _ _ _ _ _ _ _ _ _ _ _)
      | (with_reducible exact ih4 _)
      | (with_reducible exact LeO.refl _)
      | (with_reducible exact LeO.none _)
      | (with_reducible refine LeO.ite ?_ ?_)
      | (with_reducible refine LeO.bind ?_ (fun _ => ?_))
      | exact ih0 _ _ _ _ _ _ _ _ _ _ _ _ _ _ _ _ _
      | exact ih1 _ _ _ _ _ _ _ _ _ _ _ _ _ _ _ _ _
      | exact ih2 _ _ _ _ _ _ _ _ _ _ _ _ _ _ _ _ _ _
      | exact ih3 _ _ _ _ _ _ _ _ _ _ _ _ _ _ _ _ _ _ _
      | exact ih4 _
      | exact LeO.none _
      | refine LeO.ite ?_ ?_
      | refine LeO.bind ?_ (fun _ => ?_)
    · intro y0 y1 y2 y3 y4 y5 y6 y7 y8 y9 y10 y11 y12 y13 y14 y15 y16 y17 y18
      unfold carouselref16_Check.j3
      repeat' first
      | (with_reducible exact ih0 _ _ _ _ _ _ _ _ _ _ _ _ _ _ _ _ _)
      | (with_reducible exact ih1 _ _ _ _ _ _ _ _ _ _ _ _ _ _ _ _ _)
      | (with_reducible exact ih2 _ _ _ _ _ _ _ _ _ _ _ _ _ _ _ _ _ _)
      | (with_reducible exact ih3 _ _ _ _ _ _ _ _ _ _ _ _ _ _ _ _ _ _ _)
      | (with_reducible exact ih4 _)
      | (with_reducible exact LeO.refl _)
      | (with_reducible exact LeO.none _)
      | (with_reducible refine LeO.ite ?_ ?_)
      | (with_reducible refine LeO.bind ?_ (fun _ => ?_))
      | exact ih0 _ _ _ _ _ _ _ _ _ _ _ _ _ _ _ _ _
      | exact ih1 _ _ _ _ _ _ _ _ _ _ _ _ _ _ _ _ _
      | exact ih2 _ _ _ _ _ _ _ _ _ _ _ _ _ _ _ _ _ _
      | exact ih3 _ _ _ _ _ _ _ _ _ _ _ _ _ _ _ _ _ _ _
      | exact ih4 _
      | exact LeO.none _
      | refine LeO.ite ?_ ?_
      | refine LeO.bind ?_ (fun _ => ?_)
    · intro y0
      unfold carouselref16_Check.j4
      repeat' first
      | (with_reducible exact ih0 _ _ _ _ _ _ _ _ _ _ _ _ _ _ _ _ _)
      | (with_reducible exact ih1 _ _ _ _ _ _ _ _ _ _ _ _ _ _ _ _ _)
      | (with_reducible exact ih2 _ _ _ _ _ _ _ _ _ _ _ _ _ _ _ _ _ _)
      | (with_reducible exact ih3 _ _ _ _ _ _ _ _ _ _ _ _ _ _ _ _ _ _ _)
      | (with_reducible exact ih4 _)
      | (with_reducible exact LeO.refl _)
      | (with_reducible exact LeO.none _)
      | (with_reducible refine LeO.ite ?_ ?_)
      | (with_reducible refine LeO.bind ?_ (fun _ => ?_))
      | exact ih0 _ _ _ _ _ _ _ _ _ _ _ _ _ _ _ _ _
      | exact ih1 _ _ _ _ _ _ _ _ _ _ _ _ _ _ _ _ _
      | exact ih2 _ _ _ _ _ _ _ _ _ _ _ _ _ _ _ _ _ _
      | exact ih3 _ _ _ _ _ _ _ _ _ _ _ _ _ _ _ _ _ _ _
      | exact ih4 _
      | exact LeO.none _
      | refine LeO.ite ?_ ?_
      | refine LeO.bind ?_ (fun _ => ?_)
theorem carouselref16_Check.mono : ∀ a0 a1 a2 a3 a4 a5 a6 a7 a8 a9 a10 a11 a12 a13 a14 a15 k, LeO (carouselref16_Check.f k a0 a1 a2 a3 a4 a5 a6 a7 a8 a9 a10 a11 a12 a13 a14 a15) (carouselref16_Check.f (k + 1) a0 a1 a2 a3 a4 a5 a6 a7 a8 a9 a10 a11 a12 a13 a14 a15) := by
  intro a0 a1 a2 a3 a4 a5 a6 a7 a8 a9 a10 a11 a12 a13 a14 a15 k
  obtain ⟨ih0, ih1, ih2, ih3, ih4⟩ := carouselref16_Check.mono_l k
  unfold carouselref16_Check.f
  repeat' first
      | (with_reducible exact ih0 _ _ _ _ _ _ _ _ _ _ _ _ _ _ _ _ _)
      | (with_reducible exact ih1 _ _ _ _ _ _ _ _ _ _ _ _ _ _ _ _ _)
      | (with_reducible exact ih2 _ _ _ _ _ _ _ _ _ _ _ _ _ _ _ _ _ _)
      | (with_reducible exact ih3 _ _ _ _ _ _ _ _ _ _ _ _ _ _ _ _ _ _ _)
      | (with_reducible exact ih4 _)
      | (with_reducible exact LeO.refl _)
      | (with_reducible exact LeO.none _)
      | (with_reducible refine LeO.ite ?_ ?_)
      | (with_reducible refine LeO.bind ?_ (fun _ => ?_))
      | exact ih0 _ _ _ _ _ _ _ _ _ _ _ _ _ _ _ _ _
      | exact ih1 _ _ _ _ _ _ _ _ _ _ _ _ _ _ _ _ _
      | exact ih2 _ _ _ _ _ _ _ _ _ _ _ _ _ _ _ _ _ _
      | exact ih3 _ _ _ _ _ _ _ _ _ _ _ _ _ _ _ _ _ _ _
      | exact ih4 _
      | exact LeO.none _
      | refine LeO.ite ?_ ?_
      | refine LeO.bind ?_ (fun _ => ?_)
set_option maxHeartbeats 8000000 in
set_option maxRecDepth 100000 in
theorem carouselref16_Check.calls (k : Nat) (a0_0 : Int) (a0_1 : Int) (a0_2 : Int) (a0_3 : Int) (a0_4 : Int) (a0_5 : Int) (a0_6 : Int) (a0_7 : Int) (a0_8 : Int) (a0_9 : Int) (a0_10 : Int) (a0_11 : Int) (a0_12 : Int) (a0_13 : Int) (a0_14 : Int) (a0_15 : Bool) (r : Int) (w : World) (h : carouselref16_Check.f k a0_0 a0_1 a0_2 a0_3 a0_4 a0_5 a0_6 a0_7 a0_8 a0_9 a0_10 a0_11 a0_12 a0_13 a0_14 a0_15 = some r) :
    Calls Try.prog 32 #[.agg #[.int .i64 a0_0, .int .i64 a0_1, .int .u8 a0_2, .int .u16 a0_3, .int .u16 a0_4, .int .i64 a0_5, .int .i64 a0_6, .int .i64 a0_7, .int .i64 a0_8, .int .i64 a0_9, .int .i64 a0_10, .int .i64 a0_11, .int .i64 a0_12, .int .i64 a0_13, .int .i64 a0_14, .bool a0_15]] w fun e w' => e = .returned (.int .i64 r) ∧ Below w.heap.size w w' := by
  have hu66 := Try.underlying66
  have HB := Aside0.mk (Below.refl w.heap.size w)
  have H : (if a0_0 < 3 then (carouselref16_Check.j0 k true a0_0 a0_1 a0_2 a0_3 a0_4 a0_5 a0_6 a0_7 a0_8 a0_9 a0_10 a0_11 a0_12 a0_13 a0_14 a0_15) else (if a0_0 > 16 then (carouselref16_Check.j0 k true a0_0 a0_1 a0_2 a0_3 a0_4 a0_5 a0_6 a0_7 a0_8 a0_9 a0_10 a0_11 a0_12 a0_13 a0_14 a0_15) else (if a0_1 < 0 then (carouselref16_Check.j0 k true a0_0 a0_1 a0_2 a0_3 a0_4 a0_5 a0_6 a0_7 a0_8 a0_9 a0_10 a0_11 a0_12 a0_13 a0_14 a0_15) else (if a0_1 > (wrap64 (a0_0 - 1)) then (carouselref16_Check.j0 k true a0_0 a0_1 a0_2 a0_3 a0_4 a0_5 a0_6 a0_7 a0_8 a0_9 a0_10 a0_11 a0_12 a0_13 a0_14 a0_15) else (carouselref16_Check.j0 k (decide (a0_2 > 7)) a0_0 a0_1 a0_2 a0_3 a0_4 a0_5 a0_6 a0_7 a0_8 a0_9 a0_10 a0_11 a0_12 a0_13 a0_14 a0_15))))) = some r := h
  clear h
  have HC2 := Aside0.mk H
  clear H
  go_enter Try.func32, Try.ntmps32
  go_upto_region 1 with (first | ((with_reducible refine gate_dst (N := 1) rfl ?_); refine box_event ?hg (N := 1) ?hd (cs := #[.int .i64 a0_0, .int .i64 a0_1, .int .u8 a0_2, .int .u16 a0_3, .int .u16 a0_4, .int .i64 a0_5, .int .i64 a0_6, .int .i64 a0_7, .int .i64 a0_8, .int .i64 a0_9, .int .i64 a0_10, .int .i64 a0_11, .int .i64 a0_12, .int .i64 a0_13, .int .i64 a0_14, .bool a0_15]) (t := 66) ?hr ?_; (case hd => rfl); (case hg => rfl); (case hr => first | (go_simp; done) | (go_simp; rfl)); intro gb182 hg w3 hbox hb; have n0_ := Aside0.mk (below_step (by repeat (first | (with_reducible first | exact HB.out | apply below_alloc | apply pw_below_drewN | apply below_drew1) | exact HB.out)) hb); have n1_ := Aside0.mk (hbox); have n2_ := Aside0.mk ((by rw [hg]; exact (below_size (by repeat (first | (with_reducible first | exact HB.out | apply below_alloc | apply pw_below_drewN | apply below_drew1) | exact HB.out))) : w.heap.size ≤ gb182)); have n3_ := Aside0.mk ((by rw [hg]; exact (below_size (by repeat (first | (with_reducible first | exact HB.out | apply below_alloc | apply pw_below_drewN | apply below_drew1) | exact HB.out))) : w.heap.size ≤ gb182)); clear HB; have HB := n0_; have BK182 := n1_; have GW182 := n2_; have GE182 := n3_; clear n0_ n1_ n2_ n3_; clear hb hbox hg))
  (try simp only [Act.put, List.setIfInBounds_toArray, List.set_cons_zero, List.set_cons_succ])
  go_cut [31] (fun v31 wc => ∃ (kq : Nat) (x31_1 : Bool), v31 = .bool x31_1 ∧ Aside0 (carouselref16_Check.j0 kq x31_1 a0_0 a0_1 a0_2 a0_3 a0_4 a0_5 a0_6 a0_7 a0_8 a0_9 a0_10 a0_11 a0_12 a0_13 a0_14 a0_15 = some r) ∧ Aside0 (kq ≤ k) ∧ Aside0 (wc.heap[gb182]? = some (.cells #[.int .i64 a0_0, .int .i64 a0_1, .int .u8 a0_2, .int .u16 a0_3, .int .u16 a0_4, .int .i64 a0_5, .int .i64 a0_6, .int .i64 a0_7, .int .i64 a0_8, .int .i64 a0_9, .int .i64 a0_10, .int .i64 a0_11, .int .i64 a0_12, .int .i64 a0_13, .int .i64 a0_14, .bool a0_15] 66 (0, 0))) ∧ Aside0 (Below w.heap.size w wc))
  case first =>
    have H := HC2.out
    clear HC2
    by_cases c4 : a0_0 < 3
    · rw [if_pos c4] at H
      have c4b0 : decide (a0_0 < 3) = true := decide_eq_true c4
      clear c4
      (first | rw [c4b0] | (simp only [i64_w, i32_w]; rw [c4b0]) | skip)
      have H' := Aside0.mk H
      clear H
      have hcz5_0 : w3.cell? ⟨gb182, 0, none⟩ = some (.int .i64 a0_0) := (blk_cell BK182.out 0).trans rfl
      have hcz5_1 : w3.cell? ⟨gb182, 1, none⟩ = some (.int .i64 a0_1) := (blk_cell BK182.out 1).trans rfl
      have hcz5_2 : w3.cell? ⟨gb182, 2, none⟩ = some (.int .u8 a0_2) := (blk_cell BK182.out 2).trans rfl
      have hcz5_3 : w3.cell? ⟨gb182, 3, none⟩ = some (.int .u16 a0_3) := (blk_cell BK182.out 3).trans rfl
      have hcz5_4 : w3.cell? ⟨gb182, 4, none⟩ = some (.int .u16 a0_4) := (blk_cell BK182.out 4).trans rfl
      have hcz5_5 : w3.cell? ⟨gb182, 5, none⟩ = some (.int .i64 a0_5) := (blk_cell BK182.out 5).trans rfl
      have hcz5_6 : w3.cell? ⟨gb182, 6, none⟩ = some (.int .i64 a0_6) := (blk_cell BK182.out 6).trans rfl
      have hcz5_7 : w3.cell? ⟨gb182, 7, none⟩ = some (.int .i64 a0_7) := (blk_cell BK182.out 7).trans rfl
      have hcz5_8 : w3.cell? ⟨gb182, 8, none⟩ = some (.int .i64 a0_8) := (blk_cell BK182.out 8).trans rfl
      have hcz5_9 : w3.cell? ⟨gb182, 9, none⟩ = some (.int .i64 a0_9) := (blk_cell BK182.out 9).trans rfl
      have hcz5_10 : w3.cell? ⟨gb182, 10, none⟩ = some (.int .i64 a0_10) := (blk_cell BK182.out 10).trans rfl
      have hcz5_11 : w3.cell? ⟨gb182, 11, none⟩ = some (.int .i64 a0_11) := (blk_cell BK182.out 11).trans rfl
      have hcz5_12 : w3.cell? ⟨gb182, 12, none⟩ = some (.int .i64 a0_12) := (blk_cell BK182.out 12).trans rfl
      have hcz5_13 : w3.cell? ⟨gb182, 13, none⟩ = some (.int .i64 a0_13) := (blk_cell BK182.out 13).trans rfl
      have hcz5_14 : w3.cell? ⟨gb182, 14, none⟩ = some (.int .i64 a0_14) := (blk_cell BK182.out 14).trans rfl
      have hcz5_15 : w3.cell? ⟨gb182, 15, none⟩ = some (.bool a0_15) := (blk_cell BK182.out 15).trans rfl
      have hfz5_0 := blk_frozen BK182.out 0
      have hfz5_1 := blk_frozen BK182.out 1
      have hfz5_2 := blk_frozen BK182.out 2
      have hfz5_3 := blk_frozen BK182.out 3
      have hfz5_4 := blk_frozen BK182.out 4
      have hfz5_5 := blk_frozen BK182.out 5
      have hfz5_6 := blk_frozen BK182.out 6
      have hfz5_7 := blk_frozen BK182.out 7
      have hfz5_8 := blk_frozen BK182.out 8
      have hfz5_9 := blk_frozen BK182.out 9
      have hfz5_10 := blk_frozen BK182.out 10
      have hfz5_11 := blk_frozen BK182.out 11
      have hfz5_12 := blk_frozen BK182.out 12
      have hfz5_13 := blk_frozen BK182.out 13
      have hfz5_14 := blk_frozen BK182.out 14
      have hfz5_15 := blk_frozen BK182.out 15
      go_wp2
      go_meet
      case rel => exact ⟨_, (true), (by first | rfl | (simp; done) | (simp [*]; done)), H', ⟨by first | omega | exact Nat.le_refl _⟩, ⟨by (with_reducible repeat (first | refine blk_drewN ?_ _ | refine blk_drew ?_ | refine blk_alloc ?_ _)); exact BK182.out⟩, ⟨by repeat (first | (with_reducible first | exact HB.out | apply below_alloc | apply pw_below_drewN | apply below_drew1 | refine below_set ?_ GE182.out) | exact HB.out)⟩⟩
    · rw [if_neg c4] at H
      have c4b0 : decide (a0_0 < 3) = false := decide_eq_false c4
      clear c4
      (first | rw [c4b0] | (simp only [i64_w, i32_w]; rw [c4b0]) | skip)
      by_cases c6 : a0_0 > 16
      · rw [if_pos c6] at H
        have c6b0 : decide (16 < a0_0) = true := decide_eq_true c6
        clear c6
        have H' := Aside0.mk H
        clear H
        have hcz7_0 : w3.cell? ⟨gb182, 0, none⟩ = some (.int .i64 a0_0) := (blk_cell BK182.out 0).trans rfl
        have hcz7_1 : w3.cell? ⟨gb182, 1, none⟩ = some (.int .i64 a0_1) := (blk_cell BK182.out 1).trans rfl
        have hcz7_2 : w3.cell? ⟨gb182, 2, none⟩ = some (.int .u8 a0_2) := (blk_cell BK182.out 2).trans rfl
        have hcz7_3 : w3.cell? ⟨gb182, 3, none⟩ = some (.int .u16 a0_3) := (blk_cell BK182.out 3).trans rfl
        have hcz7_4 : w3.cell? ⟨gb182, 4, none⟩ = some (.int .u16 a0_4) := (blk_cell BK182.out 4).trans rfl
        have hcz7_5 : w3.cell? ⟨gb182, 5, none⟩ = some (.int .i64 a0_5) := (blk_cell BK182.out 5).trans rfl
        have hcz7_6 : w3.cell? ⟨gb182, 6, none⟩ = some (.int .i64 a0_6) := (blk_cell BK182.out 6).trans rfl
        have hcz7_7 : w3.cell? ⟨gb182, 7, none⟩ = some (.int .i64 a0_7) := (blk_cell BK182.out 7).trans rfl
        have hcz7_8 : w3.cell? ⟨gb182, 8, none⟩ = some (.int .i64 a0_8) := (blk_cell BK182.out 8).trans rfl
        have hcz7_9 : w3.cell? ⟨gb182, 9, none⟩ = some (.int .i64 a0_9) := (blk_cell BK182.out 9).trans rfl
        have hcz7_10 : w3.cell? ⟨gb182, 10, none⟩ = some (.int .i64 a0_10) := (blk_cell BK182.out 10).trans rfl
        have hcz7_11 : w3.cell? ⟨gb182, 11, none⟩ = some (.int .i64 a0_11) := (blk_cell BK182.out 11).trans rfl
        have hcz7_12 : w3.cell? ⟨gb182, 12, none⟩ = some (.int .i64 a0_12) := (blk_cell BK182.out 12).trans rfl
        have hcz7_13 : w3.cell? ⟨gb182, 13, none⟩ = some (.int .i64 a0_13) := (blk_cell BK182.out 13).trans rfl
        have hcz7_14 : w3.cell? ⟨gb182, 14, none⟩ = some (.int .i64 a0_14) := (blk_cell BK182.out 14).trans rfl
        have hcz7_15 : w3.cell? ⟨gb182, 15, none⟩ = some (.bool a0_15) := (blk_cell BK182.out 15).trans rfl
        have hfz7_0 := blk_frozen BK182.out 0
        have hfz7_1 := blk_frozen BK182.out 1
        have hfz7_2 := blk_frozen BK182.out 2
        have hfz7_3 := blk_frozen BK182.out 3
        have hfz7_4 := blk_frozen BK182.out 4
        have hfz7_5 := blk_frozen BK182.out 5
        have hfz7_6 := blk_frozen BK182.out 6
        have hfz7_7 := blk_frozen BK182.out 7
        have hfz7_8 := blk_frozen BK182.out 8
        have hfz7_9 := blk_frozen BK182.out 9
        have hfz7_10 := blk_frozen BK182.out 10
        have hfz7_11 := blk_frozen BK182.out 11
        have hfz7_12 := blk_frozen BK182.out 12
        have hfz7_13 := blk_frozen BK182.out 13
        have hfz7_14 := blk_frozen BK182.out 14
        have hfz7_15 := blk_frozen BK182.out 15
        go_wp2
        go_meet
        case rel => exact ⟨_, (true), (by first | rfl | (simp; done) | (simp [*]; done)), H', ⟨by first | omega | exact Nat.le_refl _⟩, ⟨by (with_reducible repeat (first | refine blk_drewN ?_ _ | refine blk_drew ?_ | refine blk_alloc ?_ _)); exact BK182.out⟩, ⟨by repeat (first | (with_reducible first | exact HB.out | apply below_alloc | apply pw_below_drewN | apply below_drew1 | refine below_set ?_ GE182.out) | exact HB.out)⟩⟩
      · rw [if_neg c6] at H
        have c6b0 : decide (16 < a0_0) = false := decide_eq_false c6
        clear c6
        by_cases c8 : a0_1 < 0
        · rw [if_pos c8] at H
          have c8b0 : decide (a0_1 < 0) = true := decide_eq_true c8
          clear c8
          have H' := Aside0.mk H
          clear H
          have hcz9_0 : w3.cell? ⟨gb182, 0, none⟩ = some (.int .i64 a0_0) := (blk_cell BK182.out 0).trans rfl
          have hcz9_1 : w3.cell? ⟨gb182, 1, none⟩ = some (.int .i64 a0_1) := (blk_cell BK182.out 1).trans rfl
          have hcz9_2 : w3.cell? ⟨gb182, 2, none⟩ = some (.int .u8 a0_2) := (blk_cell BK182.out 2).trans rfl
          have hcz9_3 : w3.cell? ⟨gb182, 3, none⟩ = some (.int .u16 a0_3) := (blk_cell BK182.out 3).trans rfl
          have hcz9_4 : w3.cell? ⟨gb182, 4, none⟩ = some (.int .u16 a0_4) := (blk_cell BK182.out 4).trans rfl
          have hcz9_5 : w3.cell? ⟨gb182, 5, none⟩ = some (.int .i64 a0_5) := (blk_cell BK182.out 5).trans rfl
          have hcz9_6 : w3.cell? ⟨gb182, 6, none⟩ = some (.int .i64 a0_6) := (blk_cell BK182.out 6).trans rfl
          have hcz9_7 : w3.cell? ⟨gb182, 7, none⟩ = some (.int .i64 a0_7) := (blk_cell BK182.out 7).trans rfl
          have hcz9_8 : w3.cell? ⟨gb182, 8, none⟩ = some (.int .i64 a0_8) := (blk_cell BK182.out 8).trans rfl
          have hcz9_9 : w3.cell? ⟨gb182, 9, none⟩ = some (.int .i64 a0_9) := (blk_cell BK182.out 9).trans rfl
          have hcz9_10 : w3.cell? ⟨gb182, 10, none⟩ = some (.int .i64 a0_10) := (blk_cell BK182.out 10).trans rfl
          have hcz9_11 : w3.cell? ⟨gb182, 11, none⟩ = some (.int .i64 a0_11) := (blk_cell BK182.out 11).trans rfl
          have hcz9_12 : w3.cell? ⟨gb182, 12, none⟩ = some (.int .i64 a0_12) := (blk_cell BK182.out 12).trans rfl
          have hcz9_13 : w3.cell? ⟨gb182, 13, none⟩ = some (.int .i64 a0_13) := (blk_cell BK182.out 13).trans rfl
          have hcz9_14 : w3.cell? ⟨gb182, 14, none⟩ = some (.int .i64 a0_14) := (blk_cell BK182.out 14).trans rfl
          have hcz9_15 : w3.cell? ⟨gb182, 15, none⟩ = some (.bool a0_15) := (blk_cell BK182.out 15).trans rfl
          have hfz9_0 := blk_frozen BK182.out 0
          have hfz9_1 := blk_frozen BK182.out 1
          have hfz9_2 := blk_frozen BK182.out 2
          have hfz9_3 := blk_frozen BK182.out 3
          have hfz9_4 := blk_frozen BK182.out 4
          have hfz9_5 := blk_frozen BK182.out 5
          have hfz9_6 := blk_frozen BK182.out 6
          have hfz9_7 := blk_frozen BK182.out 7
          have hfz9_8 := blk_frozen BK182.out 8
          have hfz9_9 := blk_frozen BK182.out 9
          have hfz9_10 := blk_frozen BK182.out 10
          have hfz9_11 := blk_frozen BK182.out 11
          have hfz9_12 := blk_frozen BK182.out 12
          have hfz9_13 := blk_frozen BK182.out 13
          have hfz9_14 := blk_frozen BK182.out 14
          have hfz9_15 := blk_frozen BK182.out 15
          go_wp2
          go_meet
          case rel => exact ⟨_, (true), (by first | rfl | (simp; done) | (simp [*]; done)), H', ⟨by first | omega | exact Nat.le_refl _⟩, ⟨by (with_reducible repeat (first | refine blk_drewN ?_ _ | refine blk_drew ?_ | refine blk_alloc ?_ _)); exact BK182.out⟩, ⟨by repeat (first | (with_reducible first | exact HB.out | apply below_alloc | apply pw_below_drewN | apply below_drew1 | refine below_set ?_ GE182.out) | exact HB.out)⟩⟩
        · rw [if_neg c8] at H
          have c8b0 : decide (a0_1 < 0) = false := decide_eq_false c8
          clear c8
          by_cases c10 : a0_1 > (wrap64 (a0_0 - 1))
          · rw [if_pos c10] at H
            have c10b0 : decide ((wrap64 (a0_0 - 1)) < a0_1) = true := decide_eq_true c10
            clear c10
            have H' := Aside0.mk H
            clear H
            have hcz11_0 : w3.cell? ⟨gb182, 0, none⟩ = some (.int .i64 a0_0) := (blk_cell BK182.out 0).trans rfl
            have hcz11_1 : w3.cell? ⟨gb182, 1, none⟩ = some (.int .i64 a0_1) := (blk_cell BK182.out 1).trans rfl
            have hcz11_2 : w3.cell? ⟨gb182, 2, none⟩ = some (.int .u8 a0_2) := (blk_cell BK182.out 2).trans rfl
            have hcz11_3 : w3.cell? ⟨gb182, 3, none⟩ = some (.int .u16 a0_3) := (blk_cell BK182.out 3).trans rfl
            have hcz11_4 : w3.cell? ⟨gb182, 4, none⟩ = some (.int .u16 a0_4) := (blk_cell BK182.out 4).trans rfl
            have hcz11_5 : w3.cell? ⟨gb182, 5, none⟩ = some (.int .i64 a0_5) := (blk_cell BK182.out 5).trans rfl
            have hcz11_6 : w3.cell? ⟨gb182, 6, none⟩ = some (.int .i64 a0_6) := (blk_cell BK182.out 6).trans rfl
            have hcz11_7 : w3.cell? ⟨gb182, 7, none⟩ = some (.int .i64 a0_7) := (blk_cell BK182.out 7).trans rfl
            have hcz11_8 : w3.cell? ⟨gb182, 8, none⟩ = some (.int .i64 a0_8) := (blk_cell BK182.out 8).trans rfl
            have hcz11_9 : w3.cell? ⟨gb182, 9, none⟩ = some (.int .i64 a0_9) := (blk_cell BK182.out 9).trans rfl
            have hcz11_10 : w3.cell? ⟨gb182, 10, none⟩ = some (.int .i64 a0_10) := (blk_cell BK182.out 10).trans rfl
            have hcz11_11 : w3.cell? ⟨gb182, 11, none⟩ = some (.int .i64 a0_11) := (blk_cell BK182.out 11).trans rfl
            have hcz11_12 : w3.cell? ⟨gb182, 12, none⟩ = some (.int .i64 a0_12) := (blk_cell BK182.out 12).trans rfl
            have hcz11_13 : w3.cell? ⟨gb182, 13, none⟩ = some (.int .i64 a0_13) := (blk_cell BK182.out 13).trans rfl
            have hcz11_14 : w3.cell? ⟨gb182, 14, none⟩ = some (.int .i64 a0_14) := (blk_cell BK182.out 14).trans rfl
            have hcz11_15 : w3.cell? ⟨gb182, 15, none⟩ = some (.bool a0_15) := (blk_cell BK182.out 15).trans rfl
            have hfz11_0 := blk_frozen BK182.out 0
            have hfz11_1 := blk_frozen BK182.out 1
            have hfz11_2 := blk_frozen BK182.out 2
            have hfz11_3 := blk_frozen BK182.out 3
            have hfz11_4 := blk_frozen BK182.out 4
            have hfz11_5 := blk_frozen BK182.out 5
            have hfz11_6 := blk_frozen BK182.out 6
            have hfz11_7 := blk_frozen BK182.out 7
            have hfz11_8 := blk_frozen BK182.out 8
            have hfz11_9 := blk_frozen BK182.out 9
            have hfz11_10 := blk_frozen BK182.out 10
            have hfz11_11 := blk_frozen BK182.out 11
            have hfz11_12 := blk_frozen BK182.out 12
            have hfz11_13 := blk_frozen BK182.out 13
            have hfz11_14 := blk_frozen BK182.out 14
            have hfz11_15 := blk_frozen BK182.out 15
            go_wp2
            go_meet
            case rel => exact ⟨_, (true), (by first | rfl | (simp; done) | (simp [*]; done)), H', ⟨by first | omega | exact Nat.le_refl _⟩, ⟨by (with_reducible repeat (first | refine blk_drewN ?_ _ | refine blk_drew ?_ | refine blk_alloc ?_ _)); exact BK182.out⟩, ⟨by repeat (first | (with_reducible first | exact HB.out | apply below_alloc | apply pw_below_drewN | apply below_drew1 | refine below_set ?_ GE182.out) | exact HB.out)⟩⟩
          · rw [if_neg c10] at H
            have c10b0 : decide ((wrap64 (a0_0 - 1)) < a0_1) = false := decide_eq_false c10
            clear c10
            have H' := Aside0.mk H
            clear H
            have hcz12_0 : w3.cell? ⟨gb182, 0, none⟩ = some (.int .i64 a0_0) := (blk_cell BK182.out 0).trans rfl
            have hcz12_1 : w3.cell? ⟨gb182, 1, none⟩ = some (.int .i64 a0_1) := (blk_cell BK182.out 1).trans rfl
            have hcz12_2 : w3.cell? ⟨gb182, 2, none⟩ = some (.int .u8 a0_2) := (blk_cell BK182.out 2).trans rfl
            have hcz12_3 : w3.cell? ⟨gb182, 3, none⟩ = some (.int .u16 a0_3) := (blk_cell BK182.out 3).trans rfl
            have hcz12_4 : w3.cell? ⟨gb182, 4, none⟩ = some (.int .u16 a0_4) := (blk_cell BK182.out 4).trans rfl
            have hcz12_5 : w3.cell? ⟨gb182, 5, none⟩ = some (.int .i64 a0_5) := (blk_cell BK182.out 5).trans rfl
            have hcz12_6 : w3.cell? ⟨gb182, 6, none⟩ = some (.int .i64 a0_6) := (blk_cell BK182.out 6).trans rfl
            have hcz12_7 : w3.cell? ⟨gb182, 7, none⟩ = some (.int .i64 a0_7) := (blk_cell BK182.out 7).trans rfl
            have hcz12_8 : w3.cell? ⟨gb182, 8, none⟩ = some (.int .i64 a0_8) := (blk_cell BK182.out 8).trans rfl
            have hcz12_9 : w3.cell? ⟨gb182, 9, none⟩ = some (.int .i64 a0_9) := (blk_cell BK182.out 9).trans rfl
            have hcz12_10 : w3.cell? ⟨gb182, 10, none⟩ = some (.int .i64 a0_10) := (blk_cell BK182.out 10).trans rfl
            have hcz12_11 : w3.cell? ⟨gb182, 11, none⟩ = some (.int .i64 a0_11) := (blk_cell BK182.out 11).trans rfl
            have hcz12_12 : w3.cell? ⟨gb182, 12, none⟩ = some (.int .i64 a0_12) := (blk_cell BK182.out 12).trans rfl
            have hcz12_13 : w3.cell? ⟨gb182, 13, none⟩ = some (.int .i64 a0_13) := (blk_cell BK182.out 13).trans rfl
            have hcz12_14 : w3.cell? ⟨gb182, 14, none⟩ = some (.int .i64 a0_14) := (blk_cell BK182.out 14).trans rfl
            have hcz12_15 : w3.cell? ⟨gb182, 15, none⟩ = some (.bool a0_15) := (blk_cell BK182.out 15).trans rfl
            have hfz12_0 := blk_frozen BK182.out 0
            have hfz12_1 := blk_frozen BK182.out 1
            have hfz12_2 := blk_frozen BK182.out 2
            have hfz12_3 := blk_frozen BK182.out 3
            have hfz12_4 := blk_frozen BK182.out 4
            have hfz12_5 := blk_frozen BK182.out 5
            have hfz12_6 := blk_frozen BK182.out 6
            have hfz12_7 := blk_frozen BK182.out 7
            have hfz12_8 := blk_frozen BK182.out 8
            have hfz12_9 := blk_frozen BK182.out 9
            have hfz12_10 := blk_frozen BK182.out 10
            have hfz12_11 := blk_frozen BK182.out 11
            have hfz12_12 := blk_frozen BK182.out 12
            have hfz12_13 := blk_frozen BK182.out 13
            have hfz12_14 := blk_frozen BK182.out 14
            have hfz12_15 := blk_frozen BK182.out 15
            go_wp2
            go_meet
            case rel => exact ⟨_, (decide (a0_2 > 7)), (by first | rfl | (simp; done) | (simp [*]; done)), H', ⟨by first | omega | exact Nat.le_refl _⟩, ⟨by (with_reducible repeat (first | refine blk_drewN ?_ _ | refine blk_drew ?_ | refine blk_alloc ?_ _)); exact BK182.out⟩, ⟨by repeat (first | (with_reducible first | exact HB.out | apply below_alloc | apply pw_below_drewN | apply below_drew1 | refine below_set ?_ GE182.out) | exact HB.out)⟩⟩
  case rest =>
    clear HC2
    try clear c1
    try clear p2
    try clear c3
    try clear c4
    try clear c4b0
    try clear c6
    try clear c6b0
    try clear p6
    try clear c8
    try clear c8b0
    try clear c10
    try clear c10b0
    try clear hcz11_0
    try clear hcz11_1
    try clear hcz11_10
    try clear hcz11_11
    try clear hcz11_12
    try clear hcz11_13
    try clear hcz11_14
    try clear hcz11_15
    try clear hcz11_2
    try clear hcz11_3
    try clear hcz11_4
    try clear hcz11_5
    try clear hcz11_6
    try clear hcz11_7
    try clear hcz11_8
    try clear hcz11_9
    try clear hcz12_0
    try clear hcz12_1
    try clear hcz12_10
    try clear hcz12_11
    try clear hcz12_12
    try clear hcz12_13
    try clear hcz12_14
    try clear hcz12_15
    try clear hcz12_2
    try clear hcz12_3
    try clear hcz12_4
    try clear hcz12_5
    try clear hcz12_6
    try clear hcz12_7
    try clear hcz12_8
    try clear hcz12_9
    try clear hcz5_0
    try clear hcz5_1
    try clear hcz5_10
    try clear hcz5_11
    try clear hcz5_12
    try clear hcz5_13
    try clear hcz5_14
    try clear hcz5_15
    try clear hcz5_2
    try clear hcz5_3
    try clear hcz5_4
    try clear hcz5_5
    try clear hcz5_6
    try clear hcz5_7
    try clear hcz5_8
    try clear hcz5_9
    try clear hcz7_0
    try clear hcz7_1
    try clear hcz7_10
    try clear hcz7_11
    try clear hcz7_12
    try clear hcz7_13
    try clear hcz7_14
    try clear hcz7_15
    try clear hcz7_2
    try clear hcz7_3
    try clear hcz7_4
    try clear hcz7_5
    try clear hcz7_6
    try clear hcz7_7
    try clear hcz7_8
    try clear hcz7_9
    try clear hcz9_0
    try clear hcz9_1
    try clear hcz9_10
    try clear hcz9_11
    try clear hcz9_12
    try clear hcz9_13
    try clear hcz9_14
    try clear hcz9_15
    try clear hcz9_2
    try clear hcz9_3
    try clear hcz9_4
    try clear hcz9_5
    try clear hcz9_6
    try clear hcz9_7
    try clear hcz9_8
    try clear hcz9_9
    try clear hfz11_0
    try clear hfz11_1
    try clear hfz11_10
    try clear hfz11_11
    try clear hfz11_12
    try clear hfz11_13
    try clear hfz11_14
    try clear hfz11_15
    try clear hfz11_2
    try clear hfz11_3
    try clear hfz11_4
    try clear hfz11_5
    try clear hfz11_6
    try clear hfz11_7
    try clear hfz11_8
    try clear hfz11_9
    try clear hfz12_0
    try clear hfz12_1
    try clear hfz12_10
    try clear hfz12_11
    try clear hfz12_12
    try clear hfz12_13
    try clear hfz12_14
    try clear hfz12_15
    try clear hfz12_2
    try clear hfz12_3
    try clear hfz12_4
    try clear hfz12_5
    try clear hfz12_6
    try clear hfz12_7
    try clear hfz12_8
    try clear hfz12_9
    try clear hfz5_0
    try clear hfz5_1
    try clear hfz5_10
    try clear hfz5_11
    try clear hfz5_12
    try clear hfz5_13
    try clear hfz5_14
    try clear hfz5_15
    try clear hfz5_2
    try clear hfz5_3
    try clear hfz5_4
    try clear hfz5_5
    try clear hfz5_6
    try clear hfz5_7
    try clear hfz5_8
    try clear hfz5_9
    try clear hfz7_0
    try clear hfz7_1
    try clear hfz7_10
    try clear hfz7_11
    try clear hfz7_12
    try clear hfz7_13
    try clear hfz7_14
    try clear hfz7_15
    try clear hfz7_2
    try clear hfz7_3
    try clear hfz7_4
    try clear hfz7_5
    try clear hfz7_6
    try clear hfz7_7
    try clear hfz7_8
    try clear hfz7_9
    try clear hfz9_0
    try clear hfz9_1
    try clear hfz9_10
    try clear hfz9_11
    try clear hfz9_12
    try clear hfz9_13
    try clear hfz9_14
    try clear hfz9_15
    try clear hfz9_2
    try clear hfz9_3
    try clear hfz9_4
    try clear hfz9_5
    try clear hfz9_6
    try clear hfz9_7
    try clear hfz9_8
    try clear hfz9_9
    obtain ⟨kq, x31_1, rfl, HA, HJ1, BK182, HB⟩ := hcut
    cases kq with
    | zero => exact absurd HA.out (by simp [carouselref16_Check.j0])
    | succ kj1 =>
      have H := HA.out
      clear HA
      simp only [carouselref16_Check.j0] at H
      by_cases c13 : x31_1 = true
      · subst c13
        have H1 : (some 4) = some r := by rw [if_pos rfl] at H; exact H
        clear H
        have H := H1
        clear H1
        obtain rfl := Option.some.inj H
        go_wp2
        go_ret
        exact ⟨by first | rfl | (simp [errW_none, errW_some] <;> rfl) | (simp [*, errW_none, errW_some] <;> rfl), by repeat (first | (with_reducible first | exact HB.out | apply below_alloc | apply pw_below_drewN | apply below_drew1 | refine below_set ?_ GE182.out) | exact HB.out)⟩
      · replace c13 := Bool.eq_false_iff.mpr c13
        subst c13
        have H1 : (if a0_3 = 0 then (carouselref16_Check.j1 kj1 true a0_0 a0_1 a0_2 a0_3 a0_4 a0_5 a0_6 a0_7 a0_8 a0_9 a0_10 a0_11 a0_12 a0_13 a0_14 a0_15) else (if a0_3 > 4094 then (carouselref16_Check.j1 kj1 true a0_0 a0_1 a0_2 a0_3 a0_4 a0_5 a0_6 a0_7 a0_8 a0_9 a0_10 a0_11 a0_12 a0_13 a0_14 a0_15) else (if a0_4 = 0 then (carouselref16_Check.j1 kj1 true a0_0 a0_1 a0_2 a0_3 a0_4 a0_5 a0_6 a0_7 a0_8 a0_9 a0_10 a0_11 a0_12 a0_13 a0_14 a0_15) else (if a0_4 > 4094 then (carouselref16_Check.j1 kj1 true a0_0 a0_1 a0_2 a0_3 a0_4 a0_5 a0_6 a0_7 a0_8 a0_9 a0_10 a0_11 a0_12 a0_13 a0_14 a0_15) else (carouselref16_Check.j1 kj1 (a0_3 == a0_4) a0_0 a0_1 a0_2 a0_3 a0_4 a0_5 a0_6 a0_7 a0_8 a0_9 a0_10 a0_11 a0_12 a0_13 a0_14 a0_15))))) = some r := by rw [if_neg (show ¬ (false = true) by decide)] at H; exact H
        clear H
        have H := H1
        clear H1
        have HC14 := Aside0.mk H
        clear H
        go_upto_region 3 with (fail)
        go_cut [56] (fun v56 wc => ∃ (kq : Nat) (x56_13 : Bool), v56 = .bool x56_13 ∧ Aside0 (carouselref16_Check.j1 kq x56_13 a0_0 a0_1 a0_2 a0_3 a0_4 a0_5 a0_6 a0_7 a0_8 a0_9 a0_10 a0_11 a0_12 a0_13 a0_14 a0_15 = some r) ∧ Aside0 (kq ≤ kj1) ∧ Aside0 (wc.heap[gb182]? = some (.cells #[.int .i64 a0_0, .int .i64 a0_1, .int .u8 a0_2, .int .u16 a0_3, .int .u16 a0_4, .int .i64 a0_5, .int .i64 a0_6, .int .i64 a0_7, .int .i64 a0_8, .int .i64 a0_9, .int .i64 a0_10, .int .i64 a0_11, .int .i64 a0_12, .int .i64 a0_13, .int .i64 a0_14, .bool a0_15] 66 (0, 0))) ∧ Aside0 (Below w.heap.size w wc))
        case first =>
          have H := HC14.out
          clear HC14
          by_cases c15 : a0_3 = 0
          · rw [if_pos c15] at H
            have c15b0 : (a0_3 == 0) = true := beq_iff_eq.mpr c15
            have c15b1 : (a0_3 != 0) = false := bne_eq_false_iff_eq.mpr c15
            clear c15
            (first | rw [c15b0] | (simp only [i64_w, i32_w]; rw [c15b0]) | skip)
            have H' := Aside0.mk H
            clear H
            have hcz16_0 : wc.cell? ⟨gb182, 0, none⟩ = some (.int .i64 a0_0) := (blk_cell BK182.out 0).trans rfl
            have hcz16_1 : wc.cell? ⟨gb182, 1, none⟩ = some (.int .i64 a0_1) := (blk_cell BK182.out 1).trans rfl
            have hcz16_2 : wc.cell? ⟨gb182, 2, none⟩ = some (.int .u8 a0_2) := (blk_cell BK182.out 2).trans rfl
            have hcz16_3 : wc.cell? ⟨gb182, 3, none⟩ = some (.int .u16 a0_3) := (blk_cell BK182.out 3).trans rfl
            have hcz16_4 : wc.cell? ⟨gb182, 4, none⟩ = some (.int .u16 a0_4) := (blk_cell BK182.out 4).trans rfl
            have hcz16_5 : wc.cell? ⟨gb182, 5, none⟩ = some (.int .i64 a0_5) := (blk_cell BK182.out 5).trans rfl
            have hcz16_6 : wc.cell? ⟨gb182, 6, none⟩ = some (.int .i64 a0_6) := (blk_cell BK182.out 6).trans rfl
            have hcz16_7 : wc.cell? ⟨gb182, 7, none⟩ = some (.int .i64 a0_7) := (blk_cell BK182.out 7).trans rfl
            have hcz16_8 : wc.cell? ⟨gb182, 8, none⟩ = some (.int .i64 a0_8) := (blk_cell BK182.out 8).trans rfl
            have hcz16_9 : wc.cell? ⟨gb182, 9, none⟩ = some (.int .i64 a0_9) := (blk_cell BK182.out 9).trans rfl
            have hcz16_10 : wc.cell? ⟨gb182, 10, none⟩ = some (.int .i64 a0_10) := (blk_cell BK182.out 10).trans rfl
            have hcz16_11 : wc.cell? ⟨gb182, 11, none⟩ = some (.int .i64 a0_11) := (blk_cell BK182.out 11).trans rfl
            have hcz16_12 : wc.cell? ⟨gb182, 12, none⟩ = some (.int .i64 a0_12) := (blk_cell BK182.out 12).trans rfl
            have hcz16_13 : wc.cell? ⟨gb182, 13, none⟩ = some (.int .i64 a0_13) := (blk_cell BK182.out 13).trans rfl
            have hcz16_14 : wc.cell? ⟨gb182, 14, none⟩ = some (.int .i64 a0_14) := (blk_cell BK182.out 14).trans rfl
            have hcz16_15 : wc.cell? ⟨gb182, 15, none⟩ = some (.bool a0_15) := (blk_cell BK182.out 15).trans rfl
            have hfz16_0 := blk_frozen BK182.out 0
            have hfz16_1 := blk_frozen BK182.out 1
            have hfz16_2 := blk_frozen BK182.out 2
            have hfz16_3 := blk_frozen BK182.out 3
            have hfz16_4 := blk_frozen BK182.out 4
            have hfz16_5 := blk_frozen BK182.out 5
            have hfz16_6 := blk_frozen BK182.out 6
            have hfz16_7 := blk_frozen BK182.out 7
            have hfz16_8 := blk_frozen BK182.out 8
            have hfz16_9 := blk_frozen BK182.out 9
            have hfz16_10 := blk_frozen BK182.out 10
            have hfz16_11 := blk_frozen BK182.out 11
            have hfz16_12 := blk_frozen BK182.out 12
            have hfz16_13 := blk_frozen BK182.out 13
            have hfz16_14 := blk_frozen BK182.out 14
            have hfz16_15 := blk_frozen BK182.out 15
            go_wp2
            go_meet
            case rel => exact ⟨_, (true), (by first | rfl | (simp; done) | (simp [*]; done)), H', ⟨by have := HJ1.out; first | omega | exact Nat.le_refl _⟩, ⟨by (with_reducible repeat (first | refine blk_drewN ?_ _ | refine blk_drew ?_ | refine blk_alloc ?_ _)); exact BK182.out⟩, ⟨by repeat (first | (with_reducible first | exact HB.out | apply below_alloc | apply pw_below_drewN | apply below_drew1 | refine below_set ?_ GE182.out) | exact HB.out)⟩⟩
          · rw [if_neg c15] at H
            have c15b0 : (a0_3 == 0) = false := beq_eq_false_iff_ne.mpr c15
            have c15b1 : (a0_3 != 0) = true := bne_iff_ne.mpr c15
            (first | rw [c15b0] | (simp only [i64_w, i32_w]; rw [c15b0]) | skip)
            by_cases c17 : a0_3 > 4094
            · rw [if_pos c17] at H
              have c17b0 : decide (4094 < a0_3) = true := decide_eq_true c17
              clear c17
              have H' := Aside0.mk H
              clear H
              have hcz18_0 : wc.cell? ⟨gb182, 0, none⟩ = some (.int .i64 a0_0) := (blk_cell BK182.out 0).trans rfl
              have hcz18_1 : wc.cell? ⟨gb182, 1, none⟩ = some (.int .i64 a0_1) := (blk_cell BK182.out 1).trans rfl
              have hcz18_2 : wc.cell? ⟨gb182, 2, none⟩ = some (.int .u8 a0_2) := (blk_cell BK182.out 2).trans rfl
              have hcz18_3 : wc.cell? ⟨gb182, 3, none⟩ = some (.int .u16 a0_3) := (blk_cell BK182.out 3).trans rfl
              have hcz18_4 : wc.cell? ⟨gb182, 4, none⟩ = some (.int .u16 a0_4) := (blk_cell BK182.out 4).trans rfl
              have hcz18_5 : wc.cell? ⟨gb182, 5, none⟩ = some (.int .i64 a0_5) := (blk_cell BK182.out 5).trans rfl
              have hcz18_6 : wc.cell? ⟨gb182, 6, none⟩ = some (.int .i64 a0_6) := (blk_cell BK182.out 6).trans rfl
              have hcz18_7 : wc.cell? ⟨gb182, 7, none⟩ = some (.int .i64 a0_7) := (blk_cell BK182.out 7).trans rfl
              have hcz18_8 : wc.cell? ⟨gb182, 8, none⟩ = some (.int .i64 a0_8) := (blk_cell BK182.out 8).trans rfl
              have hcz18_9 : wc.cell? ⟨gb182, 9, none⟩ = some (.int .i64 a0_9) := (blk_cell BK182.out 9).trans rfl
              have hcz18_10 : wc.cell? ⟨gb182, 10, none⟩ = some (.int .i64 a0_10) := (blk_cell BK182.out 10).trans rfl
              have hcz18_11 : wc.cell? ⟨gb182, 11, none⟩ = some (.int .i64 a0_11) := (blk_cell BK182.out 11).trans rfl
              have hcz18_12 : wc.cell? ⟨gb182, 12, none⟩ = some (.int .i64 a0_12) := (blk_cell BK182.out 12).trans rfl
              have hcz18_13 : wc.cell? ⟨gb182, 13, none⟩ = some (.int .i64 a0_13) := (blk_cell BK182.out 13).trans rfl
              have hcz18_14 : wc.cell? ⟨gb182, 14, none⟩ = some (.int .i64 a0_14) := (blk_cell BK182.out 14).trans rfl
              have hcz18_15 : wc.cell? ⟨gb182, 15, none⟩ = some (.bool a0_15) := (blk_cell BK182.out 15).trans rfl
              have hfz18_0 := blk_frozen BK182.out 0
              have hfz18_1 := blk_frozen BK182.out 1
              have hfz18_2 := blk_frozen BK182.out 2
              have hfz18_3 := blk_frozen BK182.out 3
              have hfz18_4 := blk_frozen BK182.out 4
              have hfz18_5 := blk_frozen BK182.out 5
              have hfz18_6 := blk_frozen BK182.out 6
              have hfz18_7 := blk_frozen BK182.out 7
              have hfz18_8 := blk_frozen BK182.out 8
              have hfz18_9 := blk_frozen BK182.out 9
              have hfz18_10 := blk_frozen BK182.out 10
              have hfz18_11 := blk_frozen BK182.out 11
              have hfz18_12 := blk_frozen BK182.out 12
              have hfz18_13 := blk_frozen BK182.out 13
              have hfz18_14 := blk_frozen BK182.out 14
              have hfz18_15 := blk_frozen BK182.out 15
              go_wp2
              go_meet
              case rel => exact ⟨_, (true), (by first | rfl | (simp; done) | (simp [*]; done)), H', ⟨by have := HJ1.out; first | omega | exact Nat.le_refl _⟩, ⟨by (with_reducible repeat (first | refine blk_drewN ?_ _ | refine blk_drew ?_ | refine blk_alloc ?_ _)); exact BK182.out⟩, ⟨by repeat (first | (with_reducible first | exact HB.out | apply below_alloc | apply pw_below_drewN | apply below_drew1 | refine below_set ?_ GE182.out) | exact HB.out)⟩⟩
            · rw [if_neg c17] at H
              have c17b0 : decide (4094 < a0_3) = false := decide_eq_false c17
              clear c17
              by_cases c19 : a0_4 = 0
              · rw [if_pos c19] at H
                have c19b0 : (a0_4 == 0) = true := beq_iff_eq.mpr c19
                have c19b1 : (a0_4 != 0) = false := bne_eq_false_iff_eq.mpr c19
                clear c19
                have H' := Aside0.mk H
                clear H
                have hcz20_0 : wc.cell? ⟨gb182, 0, none⟩ = some (.int .i64 a0_0) := (blk_cell BK182.out 0).trans rfl
                have hcz20_1 : wc.cell? ⟨gb182, 1, none⟩ = some (.int .i64 a0_1) := (blk_cell BK182.out 1).trans rfl
                have hcz20_2 : wc.cell? ⟨gb182, 2, none⟩ = some (.int .u8 a0_2) := (blk_cell BK182.out 2).trans rfl
                have hcz20_3 : wc.cell? ⟨gb182, 3, none⟩ = some (.int .u16 a0_3) := (blk_cell BK182.out 3).trans rfl
                have hcz20_4 : wc.cell? ⟨gb182, 4, none⟩ = some (.int .u16 a0_4) := (blk_cell BK182.out 4).trans rfl
                have hcz20_5 : wc.cell? ⟨gb182, 5, none⟩ = some (.int .i64 a0_5) := (blk_cell BK182.out 5).trans rfl
                have hcz20_6 : wc.cell? ⟨gb182, 6, none⟩ = some (.int .i64 a0_6) := (blk_cell BK182.out 6).trans rfl
                have hcz20_7 : wc.cell? ⟨gb182, 7, none⟩ = some (.int .i64 a0_7) := (blk_cell BK182.out 7).trans rfl
                have hcz20_8 : wc.cell? ⟨gb182, 8, none⟩ = some (.int .i64 a0_8) := (blk_cell BK182.out 8).trans rfl
                have hcz20_9 : wc.cell? ⟨gb182, 9, none⟩ = some (.int .i64 a0_9) := (blk_cell BK182.out 9).trans rfl
                have hcz20_10 : wc.cell? ⟨gb182, 10, none⟩ = some (.int .i64 a0_10) := (blk_cell BK182.out 10).trans rfl
                have hcz20_11 : wc.cell? ⟨gb182, 11, none⟩ = some (.int .i64 a0_11) := (blk_cell BK182.out 11).trans rfl
                have hcz20_12 : wc.cell? ⟨gb182, 12, none⟩ = some (.int .i64 a0_12) := (blk_cell BK182.out 12).trans rfl
                have hcz20_13 : wc.cell? ⟨gb182, 13, none⟩ = some (.int .i64 a0_13) := (blk_cell BK182.out 13).trans rfl
                have hcz20_14 : wc.cell? ⟨gb182, 14, none⟩ = some (.int .i64 a0_14) := (blk_cell BK182.out 14).trans rfl
                have hcz20_15 : wc.cell? ⟨gb182, 15, none⟩ = some (.bool a0_15) := (blk_cell BK182.out 15).trans rfl
                have hfz20_0 := blk_frozen BK182.out 0
                have hfz20_1 := blk_frozen BK182.out 1
                have hfz20_2 := blk_frozen BK182.out 2
                have hfz20_3 := blk_frozen BK182.out 3
                have hfz20_4 := blk_frozen BK182.out 4
                have hfz20_5 := blk_frozen BK182.out 5
                have hfz20_6 := blk_frozen BK182.out 6
                have hfz20_7 := blk_frozen BK182.out 7
                have hfz20_8 := blk_frozen BK182.out 8
                have hfz20_9 := blk_frozen BK182.out 9
                have hfz20_10 := blk_frozen BK182.out 10
                have hfz20_11 := blk_frozen BK182.out 11
                have hfz20_12 := blk_frozen BK182.out 12
                have hfz20_13 := blk_frozen BK182.out 13
                have hfz20_14 := blk_frozen BK182.out 14
                have hfz20_15 := blk_frozen BK182.out 15
                go_wp2
                go_meet
                case rel => exact ⟨_, (true), (by first | rfl | (simp; done) | (simp [*]; done)), H', ⟨by have := HJ1.out; first | omega | exact Nat.le_refl _⟩, ⟨by (with_reducible repeat (first | refine blk_drewN ?_ _ | refine blk_drew ?_ | refine blk_alloc ?_ _)); exact BK182.out⟩, ⟨by repeat (first | (with_reducible first | exact HB.out | apply below_alloc | apply pw_below_drewN | apply below_drew1 | refine below_set ?_ GE182.out) | exact HB.out)⟩⟩
              · rw [if_neg c19] at H
                have c19b0 : (a0_4 == 0) = false := beq_eq_false_iff_ne.mpr c19
                have c19b1 : (a0_4 != 0) = true := bne_iff_ne.mpr c19
                by_cases c21 : a0_4 > 4094
                · rw [if_pos c21] at H
                  have c21b0 : decide (4094 < a0_4) = true := decide_eq_true c21
                  clear c21
                  have H' := Aside0.mk H
                  clear H
                  have hcz22_0 : wc.cell? ⟨gb182, 0, none⟩ = some (.int .i64 a0_0) := (blk_cell BK182.out 0).trans rfl
                  have hcz22_1 : wc.cell? ⟨gb182, 1, none⟩ = some (.int .i64 a0_1) := (blk_cell BK182.out 1).trans rfl
                  have hcz22_2 : wc.cell? ⟨gb182, 2, none⟩ = some (.int .u8 a0_2) := (blk_cell BK182.out 2).trans rfl
                  have hcz22_3 : wc.cell? ⟨gb182, 3, none⟩ = some (.int .u16 a0_3) := (blk_cell BK182.out 3).trans rfl
                  have hcz22_4 : wc.cell? ⟨gb182, 4, none⟩ = some (.int .u16 a0_4) := (blk_cell BK182.out 4).trans rfl
                  have hcz22_5 : wc.cell? ⟨gb182, 5, none⟩ = some (.int .i64 a0_5) := (blk_cell BK182.out 5).trans rfl
                  have hcz22_6 : wc.cell? ⟨gb182, 6, none⟩ = some (.int .i64 a0_6) := (blk_cell BK182.out 6).trans rfl
                  have hcz22_7 : wc.cell? ⟨gb182, 7, none⟩ = some (.int .i64 a0_7) := (blk_cell BK182.out 7).trans rfl
                  have hcz22_8 : wc.cell? ⟨gb182, 8, none⟩ = some (.int .i64 a0_8) := (blk_cell BK182.out 8).trans rfl
                  have hcz22_9 : wc.cell? ⟨gb182, 9, none⟩ = some (.int .i64 a0_9) := (blk_cell BK182.out 9).trans rfl
                  have hcz22_10 : wc.cell? ⟨gb182, 10, none⟩ = some (.int .i64 a0_10) := (blk_cell BK182.out 10).trans rfl
                  have hcz22_11 : wc.cell? ⟨gb182, 11, none⟩ = some (.int .i64 a0_11) := (blk_cell BK182.out 11).trans rfl
                  have hcz22_12 : wc.cell? ⟨gb182, 12, none⟩ = some (.int .i64 a0_12) := (blk_cell BK182.out 12).trans rfl
                  have hcz22_13 : wc.cell? ⟨gb182, 13, none⟩ = some (.int .i64 a0_13) := (blk_cell BK182.out 13).trans rfl
                  have hcz22_14 : wc.cell? ⟨gb182, 14, none⟩ = some (.int .i64 a0_14) := (blk_cell BK182.out 14).trans rfl
                  have hcz22_15 : wc.cell? ⟨gb182, 15, none⟩ = some (.bool a0_15) := (blk_cell BK182.out 15).trans rfl
                  have hfz22_0 := blk_frozen BK182.out 0
                  have hfz22_1 := blk_frozen BK182.out 1
                  have hfz22_2 := blk_frozen BK182.out 2
                  have hfz22_3 := blk_frozen BK182.out 3
                  have hfz22_4 := blk_frozen BK182.out 4
                  have hfz22_5 := blk_frozen BK182.out 5
                  have hfz22_6 := blk_frozen BK182.out 6
                  have hfz22_7 := blk_frozen BK182.out 7
                  have hfz22_8 := blk_frozen BK182.out 8
                  have hfz22_9 := blk_frozen BK182.out 9
                  have hfz22_10 := blk_frozen BK182.out 10
                  have hfz22_11 := blk_frozen BK182.out 11
                  have hfz22_12 := blk_frozen BK182.out 12
                  have hfz22_13 := blk_frozen BK182.out 13
                  have hfz22_14 := blk_frozen BK182.out 14
                  have hfz22_15 := blk_frozen BK182.out 15
                  go_wp2
                  go_meet
                  case rel => exact ⟨_, (true), (by first | rfl | (simp; done) | (simp [*]; done)), H', ⟨by have := HJ1.out; first | omega | exact Nat.le_refl _⟩, ⟨by (with_reducible repeat (first | refine blk_drewN ?_ _ | refine blk_drew ?_ | refine blk_alloc ?_ _)); exact BK182.out⟩, ⟨by repeat (first | (with_reducible first | exact HB.out | apply below_alloc | apply pw_below_drewN | apply below_drew1 | refine below_set ?_ GE182.out) | exact HB.out)⟩⟩
                · rw [if_neg c21] at H
                  have c21b0 : decide (4094 < a0_4) = false := decide_eq_false c21
                  clear c21
                  have H' := Aside0.mk H
                  clear H
                  have hcz23_0 : wc.cell? ⟨gb182, 0, none⟩ = some (.int .i64 a0_0) := (blk_cell BK182.out 0).trans rfl
                  have hcz23_1 : wc.cell? ⟨gb182, 1, none⟩ = some (.int .i64 a0_1) := (blk_cell BK182.out 1).trans rfl
                  have hcz23_2 : wc.cell? ⟨gb182, 2, none⟩ = some (.int .u8 a0_2) := (blk_cell BK182.out 2).trans rfl
                  have hcz23_3 : wc.cell? ⟨gb182, 3, none⟩ = some (.int .u16 a0_3) := (blk_cell BK182.out 3).trans rfl
                  have hcz23_4 : wc.cell? ⟨gb182, 4, none⟩ = some (.int .u16 a0_4) := (blk_cell BK182.out 4).trans rfl
                  have hcz23_5 : wc.cell? ⟨gb182, 5, none⟩ = some (.int .i64 a0_5) := (blk_cell BK182.out 5).trans rfl
                  have hcz23_6 : wc.cell? ⟨gb182, 6, none⟩ = some (.int .i64 a0_6) := (blk_cell BK182.out 6).trans rfl
                  have hcz23_7 : wc.cell? ⟨gb182, 7, none⟩ = some (.int .i64 a0_7) := (blk_cell BK182.out 7).trans rfl
                  have hcz23_8 : wc.cell? ⟨gb182, 8, none⟩ = some (.int .i64 a0_8) := (blk_cell BK182.out 8).trans rfl
                  have hcz23_9 : wc.cell? ⟨gb182, 9, none⟩ = some (.int .i64 a0_9) := (blk_cell BK182.out 9).trans rfl
                  have hcz23_10 : wc.cell? ⟨gb182, 10, none⟩ = some (.int .i64 a0_10) := (blk_cell BK182.out 10).trans rfl
                  have hcz23_11 : wc.cell? ⟨gb182, 11, none⟩ = some (.int .i64 a0_11) := (blk_cell BK182.out 11).trans rfl
                  have hcz23_12 : wc.cell? ⟨gb182, 12, none⟩ = some (.int .i64 a0_12) := (blk_cell BK182.out 12).trans rfl
                  have hcz23_13 : wc.cell? ⟨gb182, 13, none⟩ = some (.int .i64 a0_13) := (blk_cell BK182.out 13).trans rfl
                  have hcz23_14 : wc.cell? ⟨gb182, 14, none⟩ = some (.int .i64 a0_14) := (blk_cell BK182.out 14).trans rfl
                  have hcz23_15 : wc.cell? ⟨gb182, 15, none⟩ = some (.bool a0_15) := (blk_cell BK182.out 15).trans rfl
                  have hfz23_0 := blk_frozen BK182.out 0
                  have hfz23_1 := blk_frozen BK182.out 1
                  have hfz23_2 := blk_frozen BK182.out 2
                  have hfz23_3 := blk_frozen BK182.out 3
                  have hfz23_4 := blk_frozen BK182.out 4
                  have hfz23_5 := blk_frozen BK182.out 5
                  have hfz23_6 := blk_frozen BK182.out 6
                  have hfz23_7 := blk_frozen BK182.out 7
                  have hfz23_8 := blk_frozen BK182.out 8
                  have hfz23_9 := blk_frozen BK182.out 9
                  have hfz23_10 := blk_frozen BK182.out 10
                  have hfz23_11 := blk_frozen BK182.out 11
                  have hfz23_12 := blk_frozen BK182.out 12
                  have hfz23_13 := blk_frozen BK182.out 13
                  have hfz23_14 := blk_frozen BK182.out 14
                  have hfz23_15 := blk_frozen BK182.out 15
                  go_wp2
                  go_meet
                  case rel => exact ⟨_, ((a0_3 == a0_4)), (by first | rfl | (simp; done) | (simp [*]; done)), H', ⟨by have := HJ1.out; first | omega | exact Nat.le_refl _⟩, ⟨by (with_reducible repeat (first | refine blk_drewN ?_ _ | refine blk_drew ?_ | refine blk_alloc ?_ _)); exact BK182.out⟩, ⟨by repeat (first | (with_reducible first | exact HB.out | apply below_alloc | apply pw_below_drewN | apply below_drew1 | refine below_set ?_ GE182.out) | exact HB.out)⟩⟩
        case rest =>
          clear HC14
          try clear c1
          try clear c2
          try clear p2
          try clear c3
          try clear c4
          try clear c4b0
          try clear c6
          try clear c6b0
          try clear p6
          try clear c8
          try clear c8b0
          try clear c10
          try clear c10b0
          try clear c13
          try clear c15
          try clear c15b0
          try clear c15b1
          try clear c17
          try clear c17b0
          try clear c19
          try clear c19b0
          try clear c19b1
          try clear c21
          try clear c21b0
          try clear hcz11_0
          try clear hcz11_1
          try clear hcz11_10
          try clear hcz11_11
          try clear hcz11_12
          try clear hcz11_13
          try clear hcz11_14
          try clear hcz11_15
          try clear hcz11_2
          try clear hcz11_3
          try clear hcz11_4
          try clear hcz11_5
          try clear hcz11_6
          try clear hcz11_7
          try clear hcz11_8
          try clear hcz11_9
          try clear hcz12_0
          try clear hcz12_1
          try clear hcz12_10
          try clear hcz12_11
          try clear hcz12_12
          try clear hcz12_13
          try clear hcz12_14
          try clear hcz12_15
          try clear hcz12_2
          try clear hcz12_3
          try clear hcz12_4
          try clear hcz12_5
          try clear hcz12_6
          try clear hcz12_7
          try clear hcz12_8
          try clear hcz12_9
          try clear hcz16_0
          try clear hcz16_1
          try clear hcz16_10
          try clear hcz16_11
          try clear hcz16_12
          try clear hcz16_13
          try clear hcz16_14
          try clear hcz16_15
          try clear hcz16_2
          try clear hcz16_3
          try clear hcz16_4
          try clear hcz16_5
          try clear hcz16_6
          try clear hcz16_7
          try clear hcz16_8
          try clear hcz16_9
          try clear hcz18_0
          try clear hcz18_1
          try clear hcz18_10
          try clear hcz18_11
          try clear hcz18_12
          try clear hcz18_13
          try clear hcz18_14
          try clear hcz18_15
          try clear hcz18_2
          try clear hcz18_3
          try clear hcz18_4
          try clear hcz18_5
          try clear hcz18_6
          try clear hcz18_7
          try clear hcz18_8
          try clear hcz18_9
          try clear hcz20_0
          try clear hcz20_1
          try clear hcz20_10
          try clear hcz20_11
          try clear hcz20_12
          try clear hcz20_13
          try clear hcz20_14
          try clear hcz20_15
          try clear hcz20_2
          try clear hcz20_3
          try clear hcz20_4
          try clear hcz20_5
          try clear hcz20_6
          try clear hcz20_7
          try clear hcz20_8
          try clear hcz20_9
          try clear hcz22_0
          try clear hcz22_1
          try clear hcz22_10
          try clear hcz22_11
          try clear hcz22_12
          try clear hcz22_13
          try clear hcz22_14
          try clear hcz22_15
          try clear hcz22_2
          try clear hcz22_3
          try clear hcz22_4
          try clear hcz22_5
          try clear hcz22_6
          try clear hcz22_7
          try clear hcz22_8
          try clear hcz22_9
          try clear hcz23_0
          try clear hcz23_1
          try clear hcz23_10
          try clear hcz23_11
          try clear hcz23_12
          try clear hcz23_13
          try clear hcz23_14
          try clear hcz23_15
          try clear hcz23_2
          try clear hcz23_3
          try clear hcz23_4
          try clear hcz23_5
          try clear hcz23_6
          try clear hcz23_7
          try clear hcz23_8
          try clear hcz23_9
          try clear hcz5_0
          try clear hcz5_1
          try clear hcz5_10
          try clear hcz5_11
          try clear hcz5_12
          try clear hcz5_13
          try clear hcz5_14
          try clear hcz5_15
          try clear hcz5_2
          try clear hcz5_3
          try clear hcz5_4
          try clear hcz5_5
          try clear hcz5_6
          try clear hcz5_7
          try clear hcz5_8
          try clear hcz5_9
          try clear hcz7_0
          try clear hcz7_1
          try clear hcz7_10
          try clear hcz7_11
          try clear hcz7_12
          try clear hcz7_13
          try clear hcz7_14
          try clear hcz7_15
          try clear hcz7_2
          try clear hcz7_3
          try clear hcz7_4
          try clear hcz7_5
          try clear hcz7_6
          try clear hcz7_7
          try clear hcz7_8
          try clear hcz7_9
          try clear hcz9_0
          try clear hcz9_1
          try clear hcz9_10
          try clear hcz9_11
          try clear hcz9_12
          try clear hcz9_13
          try clear hcz9_14
          try clear hcz9_15
          try clear hcz9_2
          try clear hcz9_3
          try clear hcz9_4
          try clear hcz9_5
          try clear hcz9_6
          try clear hcz9_7
          try clear hcz9_8
          try clear hcz9_9
          try clear hfz11_0
          try clear hfz11_1
          try clear hfz11_10
          try clear hfz11_11
          try clear hfz11_12
          try clear hfz11_13
          try clear hfz11_14
          try clear hfz11_15
          try clear hfz11_2
          try clear hfz11_3
          try clear hfz11_4
          try clear hfz11_5
          try clear hfz11_6
          try clear hfz11_7
          try clear hfz11_8
          try clear hfz11_9
          try clear hfz12_0
          try clear hfz12_1
          try clear hfz12_10
          try clear hfz12_11
          try clear hfz12_12
          try clear hfz12_13
          try clear hfz12_14
          try clear hfz12_15
          try clear hfz12_2
          try clear hfz12_3
          try clear hfz12_4
          try clear hfz12_5
          try clear hfz12_6
          try clear hfz12_7
          try clear hfz12_8
          try clear hfz12_9
          try clear hfz16_0
          try clear hfz16_1
          try clear hfz16_10
          try clear hfz16_11
          try clear hfz16_12
          try clear hfz16_13
          try clear hfz16_14
          try clear hfz16_15
          try clear hfz16_2
          try clear hfz16_3
          try clear hfz16_4
          try clear hfz16_5
          try clear hfz16_6
          try clear hfz16_7
          try clear hfz16_8
          try clear hfz16_9
          try clear hfz18_0
          try clear hfz18_1
          try clear hfz18_10
          try clear hfz18_11
          try clear hfz18_12
          try clear hfz18_13
          try clear hfz18_14
          try clear hfz18_15
          try clear hfz18_2
          try clear hfz18_3
          try clear hfz18_4
          try clear hfz18_5
          try clear hfz18_6
          try clear hfz18_7
          try clear hfz18_8
          try clear hfz18_9
          try clear hfz20_0
          try clear hfz20_1
          try clear hfz20_10
          try clear hfz20_11
          try clear hfz20_12
          try clear hfz20_13
          try clear hfz20_14
          try clear hfz20_15
          try clear hfz20_2
          try clear hfz20_3
          try clear hfz20_4
          try clear hfz20_5
          try clear hfz20_6
          try clear hfz20_7
          try clear hfz20_8
          try clear hfz20_9
          try clear hfz22_0
          try clear hfz22_1
          try clear hfz22_10
          try clear hfz22_11
          try clear hfz22_12
          try clear hfz22_13
          try clear hfz22_14
          try clear hfz22_15
          try clear hfz22_2
          try clear hfz22_3
          try clear hfz22_4
          try clear hfz22_5
          try clear hfz22_6
          try clear hfz22_7
          try clear hfz22_8
          try clear hfz22_9
          try clear hfz23_0
          try clear hfz23_1
          try clear hfz23_10
          try clear hfz23_11
          try clear hfz23_12
          try clear hfz23_13
          try clear hfz23_14
          try clear hfz23_15
          try clear hfz23_2
          try clear hfz23_3
          try clear hfz23_4
          try clear hfz23_5
          try clear hfz23_6
          try clear hfz23_7
          try clear hfz23_8
          try clear hfz23_9
          try clear hfz5_0
          try clear hfz5_1
          try clear hfz5_10
          try clear hfz5_11
          try clear hfz5_12
          try clear hfz5_13
          try clear hfz5_14
          try clear hfz5_15
          try clear hfz5_2
          try clear hfz5_3
          try clear hfz5_4
          try clear hfz5_5
          try clear hfz5_6
          try clear hfz5_7
          try clear hfz5_8
          try clear hfz5_9
          try clear hfz7_0
          try clear hfz7_1
          try clear hfz7_10
          try clear hfz7_11
          try clear hfz7_12
          try clear hfz7_13
          try clear hfz7_14
          try clear hfz7_15
          try clear hfz7_2
          try clear hfz7_3
          try clear hfz7_4
          try clear hfz7_5
          try clear hfz7_6
          try clear hfz7_7
          try clear hfz7_8
          try clear hfz7_9
          try clear hfz9_0
          try clear hfz9_1
          try clear hfz9_10
          try clear hfz9_11
          try clear hfz9_12
          try clear hfz9_13
          try clear hfz9_14
          try clear hfz9_15
          try clear hfz9_2
          try clear hfz9_3
          try clear hfz9_4
          try clear hfz9_5
          try clear hfz9_6
          try clear hfz9_7
          try clear hfz9_8
          try clear hfz9_9
          try clear p2
          try clear p6
          obtain ⟨kq, x56_13, rfl, HA, HJ13, BK182, HB⟩ := hcut
          cases kq with
          | zero => exact absurd HA.out (by simp [carouselref16_Check.j1])
          | succ kj13 =>
            have H := HA.out
            clear HA
            simp only [carouselref16_Check.j1] at H
            by_cases c24 : x56_13 = true
            · subst c24
              have H1 : (some 5) = some r := by rw [if_pos rfl] at H; exact H
              clear H
              have H := H1
              clear H1
              obtain rfl := Option.some.inj H
              go_wp2
              go_ret
              exact ⟨by first | rfl | (simp [errW_none, errW_some] <;> rfl) | (simp [*, errW_none, errW_some] <;> rfl), by repeat (first | (with_reducible first | exact HB.out | apply below_alloc | apply pw_below_drewN | apply below_drew1 | refine below_set ?_ GE182.out) | exact HB.out)⟩
            · replace c24 := Bool.eq_false_iff.mpr c24
              subst c24
              have H1 : (carouselref16_Check.l0 kj13 (([a0_5, a0_7, a0_8, a0_9, a0_10, a0_11, a0_12, wrap64 (a0_6 + 1)] : List Int)) 0 a0_0 a0_1 a0_2 a0_3 a0_4 a0_5 a0_6 a0_7 a0_8 a0_9 a0_10 a0_11 a0_12 a0_13 a0_14 a0_15) = some r := by rw [if_neg (show ¬ (false = true) by decide)] at H; exact H
              clear H
              have H := H1
              clear H1
              obtain ⟨y183, hy183⟩ : ∃ y_ : List Int, y_ = (([a0_5, a0_7, a0_8, a0_9, a0_10, a0_11, a0_12, wrap64 (a0_6 + 1)] : List Int)) := ⟨_, rfl⟩
              replace H : (carouselref16_Check.l0 kj13 y183 0 a0_0 a0_1 a0_2 a0_3 a0_4 a0_5 a0_6 a0_7 a0_8 a0_9 a0_10 a0_11 a0_12 a0_13 a0_14 a0_15) = some r := by first | (rw [hy183]; with_reducible exact H) | (have H2_ := (Option.bind_some _ _).symm.trans H; rw [hy183]; with_reducible exact H2_) | (have H2_ := (Option.bind_some _ _).symm.trans H; with_reducible exact H2_) | with_reducible exact H | (rw [hy183]; exact H) | exact H
              have Ny183 := Aside0.mk hy183
              clear hy183
              have H' := Aside0.mk H
              clear H
              have hcz25_0 : wc.cell? ⟨gb182, 0, none⟩ = some (.int .i64 a0_0) := (blk_cell BK182.out 0).trans rfl
              have hcz25_1 : wc.cell? ⟨gb182, 1, none⟩ = some (.int .i64 a0_1) := (blk_cell BK182.out 1).trans rfl
              have hcz25_2 : wc.cell? ⟨gb182, 2, none⟩ = some (.int .u8 a0_2) := (blk_cell BK182.out 2).trans rfl
              have hcz25_3 : wc.cell? ⟨gb182, 3, none⟩ = some (.int .u16 a0_3) := (blk_cell BK182.out 3).trans rfl
              have hcz25_4 : wc.cell? ⟨gb182, 4, none⟩ = some (.int .u16 a0_4) := (blk_cell BK182.out 4).trans rfl
              have hcz25_5 : wc.cell? ⟨gb182, 5, none⟩ = some (.int .i64 a0_5) := (blk_cell BK182.out 5).trans rfl
              have hcz25_6 : wc.cell? ⟨gb182, 6, none⟩ = some (.int .i64 a0_6) := (blk_cell BK182.out 6).trans rfl
              have hcz25_7 : wc.cell? ⟨gb182, 7, none⟩ = some (.int .i64 a0_7) := (blk_cell BK182.out 7).trans rfl
              have hcz25_8 : wc.cell? ⟨gb182, 8, none⟩ = some (.int .i64 a0_8) := (blk_cell BK182.out 8).trans rfl
              have hcz25_9 : wc.cell? ⟨gb182, 9, none⟩ = some (.int .i64 a0_9) := (blk_cell BK182.out 9).trans rfl
              have hcz25_10 : wc.cell? ⟨gb182, 10, none⟩ = some (.int .i64 a0_10) := (blk_cell BK182.out 10).trans rfl
              have hcz25_11 : wc.cell? ⟨gb182, 11, none⟩ = some (.int .i64 a0_11) := (blk_cell BK182.out 11).trans rfl
              have hcz25_12 : wc.cell? ⟨gb182, 12, none⟩ = some (.int .i64 a0_12) := (blk_cell BK182.out 12).trans rfl
              have hcz25_13 : wc.cell? ⟨gb182, 13, none⟩ = some (.int .i64 a0_13) := (blk_cell BK182.out 13).trans rfl
              have hcz25_14 : wc.cell? ⟨gb182, 14, none⟩ = some (.int .i64 a0_14) := (blk_cell BK182.out 14).trans rfl
              have hcz25_15 : wc.cell? ⟨gb182, 15, none⟩ = some (.bool a0_15) := (blk_cell BK182.out 15).trans rfl
              have hfz25_0 := blk_frozen BK182.out 0
              have hfz25_1 := blk_frozen BK182.out 1
              have hfz25_2 := blk_frozen BK182.out 2
              have hfz25_3 := blk_frozen BK182.out 3
              have hfz25_4 := blk_frozen BK182.out 4
              have hfz25_5 := blk_frozen BK182.out 5
              have hfz25_6 := blk_frozen BK182.out 6
              have hfz25_7 := blk_frozen BK182.out 7
              have hfz25_8 := blk_frozen BK182.out 8
              have hfz25_9 := blk_frozen BK182.out 9
              have hfz25_10 := blk_frozen BK182.out 10
              have hfz25_11 := blk_frozen BK182.out 11
              have hfz25_12 := blk_frozen BK182.out 12
              have hfz25_13 := blk_frozen BK182.out 13
              have hfz25_14 := blk_frozen BK182.out 14
              have hfz25_15 := blk_frozen BK182.out 15
              go_wp2_with (first | ((with_reducible refine gate_dst (N := 74) rfl ?_); refine Kd.R_lit (Kd.int .i64) _ 2 ?hg (N := 74) ?hd (xs := ([a0_5, a0_7, a0_8, a0_9, a0_10, a0_11, a0_12, wrap64 (a0_6 + 1)] : List Int)) (inner := [.int .i64 a0_5, .int .i64 a0_7, .int .i64 a0_8, .int .i64 a0_9, .int .i64 a0_10, .int .i64 a0_11, .int .i64 a0_12, .int .i64 (wrap64 (a0_6 + 1))]) (ok := fun _ => True) (okp := fun _ => True) ?hr ?hp (fun _ hk => hk) trivial (Below.refl _ _) (Nat.le_refl _) (by simp) ?_; (case hd => rfl); (case hg => rfl); (case hr => first | (go_simp; done) | (go_simp; rfl)); (case hp => exact (Reps.one (show Kd.M (Kd.int .i64) _ _ _ a0_5 [.int .i64 a0_5] from rfl) (Reps.one (show Kd.M (Kd.int .i64) _ _ _ a0_7 [.int .i64 a0_7] from rfl) (Reps.one (show Kd.M (Kd.int .i64) _ _ _ a0_8 [.int .i64 a0_8] from rfl) (Reps.one (show Kd.M (Kd.int .i64) _ _ _ a0_9 [.int .i64 a0_9] from rfl) (Reps.one (show Kd.M (Kd.int .i64) _ _ _ a0_10 [.int .i64 a0_10] from rfl) (Reps.one (show Kd.M (Kd.int .i64) _ _ _ a0_11 [.int .i64 a0_11] from rfl) (Reps.one (show Kd.M (Kd.int .i64) _ _ _ a0_12 [.int .i64 a0_12] from rfl) (Reps.one (show Kd.M (Kd.int .i64) _ _ _ (wrap64 (a0_6 + 1)) [.int .i64 (wrap64 (a0_6 + 1))] from rfl) (Reps.none _ _)))))))))); intro v184 w26 ho27 hb hg_ hnew_; clear hg_ hnew_; (first | rw [← Ny183.out] at ho27 | (simp only [Int.reduceToNat] at ho27; rw [← Ny183.out] at ho27)); have n0_ := Aside0.mk (Kd.R_lower ho27 (below_size (by repeat (first | (with_reducible first | exact HB.out | apply below_alloc | apply pw_below_drewN | apply below_drew1 | refine below_set ?_ GE182.out) | exact HB.out)))); have n1_ := Aside0.mk (blk_below (g := gb182) (o := .cells #[.int .i64 a0_0, .int .i64 a0_1, .int .u8 a0_2, .int .u16 a0_3, .int .u16 a0_4, .int .i64 a0_5, .int .i64 a0_6, .int .i64 a0_7, .int .i64 a0_8, .int .i64 a0_9, .int .i64 a0_10, .int .i64 a0_11, .int .i64 a0_12, .int .i64 a0_13, .int .i64 a0_14, .bool a0_15] 66 (0, 0)) (by (with_reducible repeat (first | refine blk_drewN ?_ _ | refine blk_drew ?_ | refine blk_alloc ?_ _)); exact BK182.out) hb); have n2_ := Aside0.mk (below_step (by repeat (first | (with_reducible first | exact HB.out | apply below_alloc | apply pw_below_drewN | apply below_drew1 | refine below_set ?_ GE182.out) | exact HB.out)) hb); clear BK182; clear HB; have HO185 := n0_; have BK182 := n1_; have HB := n2_; clear n0_ n1_ n2_; clear hb ho27))
              go_loopg [4] kj13 (fun kq v4 w' => ∃ (x4_3 : Int), v4 = .int .i64 x4_3 ∧ Aside0 (carouselref16_Check.l0 kq y183 x4_3 a0_0 a0_1 a0_2 a0_3 a0_4 a0_5 a0_6 a0_7 a0_8 a0_9 a0_10 a0_11 a0_12 a0_13 a0_14 a0_15 = some r) ∧ Aside0 (kq ≤ kj13) ∧ Aside0 (Kd.R (Kd.int .i64) 2 w' w.heap.size (fun _ => True) v184 y183) ∧ Aside0 (w'.heap[gb182]? = some (.cells #[.int .i64 a0_0, .int .i64 a0_1, .int .u8 a0_2, .int .u16 a0_3, .int .u16 a0_4, .int .i64 a0_5, .int .i64 a0_6, .int .i64 a0_7, .int .i64 a0_8, .int .i64 a0_9, .int .i64 a0_10, .int .i64 a0_11, .int .i64 a0_12, .int .i64 a0_13, .int .i64 a0_14, .bool a0_15] 66 (0, 0))) ∧ Aside0 (Below w.heap.size w w'))
              case atStart => exact ⟨(0), (by first | rfl | (simp; done) | (simp [*]; done)), H', ⟨Nat.le_refl _⟩, ⟨by (with_reducible repeat (first | apply Kd.R_alloc | apply Kd.R_drewN | apply Kd.R_drew)); exact HO185.out⟩, ⟨by (with_reducible repeat (first | refine blk_drewN ?_ _ | refine blk_drew ?_ | refine blk_alloc ?_ _)); exact BK182.out⟩, ⟨by repeat (first | (with_reducible first | exact HB.out | apply below_alloc | apply pw_below_drewN | apply below_drew1 | refine below_set ?_ GE182.out) | exact HB.out)⟩⟩
              case round =>
                clear H'
                try clear c1
                try clear c2
                try clear p2
                try clear c3
                try clear c4
                try clear c4b0
                try clear c6
                try clear c6b0
                try clear p6
                try clear c8
                try clear c8b0
                try clear c10
                try clear c10b0
                try clear c13
                try clear c15
                try clear c15b0
                try clear c15b1
                try clear c17
                try clear c17b0
                try clear c19
                try clear c19b0
                try clear c19b1
                try clear c21
                try clear c21b0
                try clear c24
                try clear hcz11_0
                try clear hcz11_1
                try clear hcz11_10
                try clear hcz11_11
                try clear hcz11_12
                try clear hcz11_13
                try clear hcz11_14
                try clear hcz11_15
                try clear hcz11_2
                try clear hcz11_3
                try clear hcz11_4
                try clear hcz11_5
                try clear hcz11_6
                try clear hcz11_7
                try clear hcz11_8
                try clear hcz11_9
                try clear hcz12_0
                try clear hcz12_1
                try clear hcz12_10
                try clear hcz12_11
                try clear hcz12_12
                try clear hcz12_13
                try clear hcz12_14
                try clear hcz12_15
                try clear hcz12_2
                try clear hcz12_3
                try clear hcz12_4
                try clear hcz12_5
                try clear hcz12_6
                try clear hcz12_7
                try clear hcz12_8
                try clear hcz12_9
                try clear hcz16_0
                try clear hcz16_1
                try clear hcz16_10
                try clear hcz16_11
                try clear hcz16_12
                try clear hcz16_13
                try clear hcz16_14
                try clear hcz16_15
                try clear hcz16_2
                try clear hcz16_3
                try clear hcz16_4
                try clear hcz16_5
                try clear hcz16_6
                try clear hcz16_7
                try clear hcz16_8
                try clear hcz16_9
                try clear hcz18_0
                try clear hcz18_1
                try clear hcz18_10
                try clear hcz18_11
                try clear hcz18_12
                try clear hcz18_13
                try clear hcz18_14
                try clear hcz18_15
                try clear hcz18_2
                try clear hcz18_3
                try clear hcz18_4
                try clear hcz18_5
                try clear hcz18_6
                try clear hcz18_7
                try clear hcz18_8
                try clear hcz18_9
                try clear hcz20_0
                try clear hcz20_1
                try clear hcz20_10
                try clear hcz20_11
                try clear hcz20_12
                try clear hcz20_13
                try clear hcz20_14
                try clear hcz20_15
                try clear hcz20_2
                try clear hcz20_3
                try clear hcz20_4
                try clear hcz20_5
                try clear hcz20_6
                try clear hcz20_7
                try clear hcz20_8
                try clear hcz20_9
                try clear hcz22_0
                try clear hcz22_1
                try clear hcz22_10
                try clear hcz22_11
                try clear hcz22_12
                try clear hcz22_13
                try clear hcz22_14
                try clear hcz22_15
                try clear hcz22_2
                try clear hcz22_3
                try clear hcz22_4
                try clear hcz22_5
                try clear hcz22_6
                try clear hcz22_7
                try clear hcz22_8
                try clear hcz22_9
                try clear hcz23_0
                try clear hcz23_1
                try clear hcz23_10
                try clear hcz23_11
                try clear hcz23_12
                try clear hcz23_13
                try clear hcz23_14
                try clear hcz23_15
                try clear hcz23_2
                try clear hcz23_3
                try clear hcz23_4
                try clear hcz23_5
                try clear hcz23_6
                try clear hcz23_7
                try clear hcz23_8
                try clear hcz23_9
                try clear hcz25_0
                try clear hcz25_1
                try clear hcz25_10
                try clear hcz25_11
                try clear hcz25_12
                try clear hcz25_13
                try clear hcz25_14
                try clear hcz25_15
                try clear hcz25_2
                try clear hcz25_3
                try clear hcz25_4
                try clear hcz25_5
                try clear hcz25_6
                try clear hcz25_7
                try clear hcz25_8
                try clear hcz25_9
                try clear hcz5_0
                try clear hcz5_1
                try clear hcz5_10
                try clear hcz5_11
                try clear hcz5_12
                try clear hcz5_13
                try clear hcz5_14
                try clear hcz5_15
                try clear hcz5_2
                try clear hcz5_3
                try clear hcz5_4
                try clear hcz5_5
                try clear hcz5_6
                try clear hcz5_7
                try clear hcz5_8
                try clear hcz5_9
                try clear hcz7_0
                try clear hcz7_1
                try clear hcz7_10
                try clear hcz7_11
                try clear hcz7_12
                try clear hcz7_13
                try clear hcz7_14
                try clear hcz7_15
                try clear hcz7_2
                try clear hcz7_3
                try clear hcz7_4
                try clear hcz7_5
                try clear hcz7_6
                try clear hcz7_7
                try clear hcz7_8
                try clear hcz7_9
                try clear hcz9_0
                try clear hcz9_1
                try clear hcz9_10
                try clear hcz9_11
                try clear hcz9_12
                try clear hcz9_13
                try clear hcz9_14
                try clear hcz9_15
                try clear hcz9_2
                try clear hcz9_3
                try clear hcz9_4
                try clear hcz9_5
                try clear hcz9_6
                try clear hcz9_7
                try clear hcz9_8
                try clear hcz9_9
                try clear hfz11_0
                try clear hfz11_1
                try clear hfz11_10
                try clear hfz11_11
                try clear hfz11_12
                try clear hfz11_13
                try clear hfz11_14
                try clear hfz11_15
                try clear hfz11_2
                try clear hfz11_3
                try clear hfz11_4
                try clear hfz11_5
                try clear hfz11_6
                try clear hfz11_7
                try clear hfz11_8
                try clear hfz11_9
                try clear hfz12_0
                try clear hfz12_1
                try clear hfz12_10
                try clear hfz12_11
                try clear hfz12_12
                try clear hfz12_13
                try clear hfz12_14
                try clear hfz12_15
                try clear hfz12_2
                try clear hfz12_3
                try clear hfz12_4
                try clear hfz12_5
                try clear hfz12_6
                try clear hfz12_7
                try clear hfz12_8
                try clear hfz12_9
                try clear hfz16_0
                try clear hfz16_1
                try clear hfz16_10
                try clear hfz16_11
                try clear hfz16_12
                try clear hfz16_13
                try clear hfz16_14
                try clear hfz16_15
                try clear hfz16_2
                try clear hfz16_3
                try clear hfz16_4
                try clear hfz16_5
                try clear hfz16_6
                try clear hfz16_7
                try clear hfz16_8
                try clear hfz16_9
                try clear hfz18_0
                try clear hfz18_1
                try clear hfz18_10
                try clear hfz18_11
                try clear hfz18_12
                try clear hfz18_13
                try clear hfz18_14
                try clear hfz18_15
                try clear hfz18_2
                try clear hfz18_3
                try clear hfz18_4
                try clear hfz18_5
                try clear hfz18_6
                try clear hfz18_7
                try clear hfz18_8
                try clear hfz18_9
                try clear hfz20_0
                try clear hfz20_1
                try clear hfz20_10
                try clear hfz20_11
                try clear hfz20_12
                try clear hfz20_13
                try clear hfz20_14
                try clear hfz20_15
                try clear hfz20_2
                try clear hfz20_3
                try clear hfz20_4
                try clear hfz20_5
                try clear hfz20_6
                try clear hfz20_7
                try clear hfz20_8
                try clear hfz20_9
                try clear hfz22_0
                try clear hfz22_1
                try clear hfz22_10
                try clear hfz22_11
                try clear hfz22_12
                try clear hfz22_13
                try clear hfz22_14
                try clear hfz22_15
                try clear hfz22_2
                try clear hfz22_3
                try clear hfz22_4
                try clear hfz22_5
                try clear hfz22_6
                try clear hfz22_7
                try clear hfz22_8
                try clear hfz22_9
                try clear hfz23_0
                try clear hfz23_1
                try clear hfz23_10
                try clear hfz23_11
                try clear hfz23_12
                try clear hfz23_13
                try clear hfz23_14
                try clear hfz23_15
                try clear hfz23_2
                try clear hfz23_3
                try clear hfz23_4
                try clear hfz23_5
                try clear hfz23_6
                try clear hfz23_7
                try clear hfz23_8
                try clear hfz23_9
                try clear hfz25_0
                try clear hfz25_1
                try clear hfz25_10
                try clear hfz25_11
                try clear hfz25_12
                try clear hfz25_13
                try clear hfz25_14
                try clear hfz25_15
                try clear hfz25_2
                try clear hfz25_3
                try clear hfz25_4
                try clear hfz25_5
                try clear hfz25_6
                try clear hfz25_7
                try clear hfz25_8
                try clear hfz25_9
                try clear hfz5_0
                try clear hfz5_1
                try clear hfz5_10
                try clear hfz5_11
                try clear hfz5_12
                try clear hfz5_13
                try clear hfz5_14
                try clear hfz5_15
                try clear hfz5_2
                try clear hfz5_3
                try clear hfz5_4
                try clear hfz5_5
                try clear hfz5_6
                try clear hfz5_7
                try clear hfz5_8
                try clear hfz5_9
                try clear hfz7_0
                try clear hfz7_1
                try clear hfz7_10
                try clear hfz7_11
                try clear hfz7_12
                try clear hfz7_13
                try clear hfz7_14
                try clear hfz7_15
                try clear hfz7_2
                try clear hfz7_3
                try clear hfz7_4
                try clear hfz7_5
                try clear hfz7_6
                try clear hfz7_7
                try clear hfz7_8
                try clear hfz7_9
                try clear hfz9_0
                try clear hfz9_1
                try clear hfz9_10
                try clear hfz9_11
                try clear hfz9_12
                try clear hfz9_13
                try clear hfz9_14
                try clear hfz9_15
                try clear hfz9_2
                try clear hfz9_3
                try clear hfz9_4
                try clear hfz9_5
                try clear hfz9_6
                try clear hfz9_7
                try clear hfz9_8
                try clear hfz9_9
                try clear p2
                try clear p6
                obtain ⟨x4_3, rfl, HA, HK3, HO_3, BK182, HB⟩ := hrel
                cases gk with
                | zero => exact absurd HA.out (by simp [carouselref16_Check.l0])
                | succ k3 =>
                  have H := HA.out
                  clear HA
                  simp only [carouselref16_Check.l0] at H
                  by_cases c28 : x4_3 < (y183.length : Int)
                  · rw [if_pos c28] at H
                    have c28b0 : decide (x4_3 < (y183.length : Int)) = true := decide_eq_true c28
                    clear c28
                    have HC29 := Aside0.mk H
                    clear H
                    obtain ⟨Ao30, co30, eo30⟩ := Kd.R_slice HO_3.out
                    subst eo30
                    go_upto_if 82 with (fail)
                    go_cut [5] (fun v5 wc => ∃ (kq : Nat) (x5_28 : Int), v5 = .int .i64 x5_28 ∧ Aside0 (carouselref16_Check.j3 kq y183 x4_3 x5_28 a0_0 a0_1 a0_2 a0_3 a0_4 a0_5 a0_6 a0_7 a0_8 a0_9 a0_10 a0_11 a0_12 a0_13 a0_14 a0_15 = some r) ∧ Aside0 (kq ≤ k3) ∧ Aside0 (Kd.R (Kd.int .i64) 2 wc w.heap.size (fun _ => True) (.slice Ao30 y183.length co30) y183) ∧ Aside0 (wc.heap[gb182]? = some (.cells #[.int .i64 a0_0, .int .i64 a0_1, .int .u8 a0_2, .int .u16 a0_3, .int .u16 a0_4, .int .i64 a0_5, .int .i64 a0_6, .int .i64 a0_7, .int .i64 a0_8, .int .i64 a0_9, .int .i64 a0_10, .int .i64 a0_11, .int .i64 a0_12, .int .i64 a0_13, .int .i64 a0_14, .bool a0_15] 66 (0, 0))) ∧ Aside0 (Below w.heap.size w wc))
                    case first =>
                      have H := HC29.out
                      clear HC29
                      by_cases c31 : x4_3 = 7
                      · rw [if_pos c31] at H
                        have c31b0 : (x4_3 == 7) = true := beq_iff_eq.mpr c31
                        have c31b1 : (x4_3 != 7) = false := bne_eq_false_iff_eq.mpr c31
                        clear c31
                        (first | rw [c31b0] | (simp only [i64_w, i32_w]; rw [c31b0]) | skip)
                        have H' := Aside0.mk H
                        clear H
                        go_wp2
                        go_meet
                        case rel => exact ⟨_, (1048576 + 1), (by first | rfl | (simp; done) | (simp [*]; done)), H', ⟨by have := HJ1.out; have := HJ13.out; have := HK3.out; first | omega | exact Nat.le_refl _⟩, ⟨by (with_reducible repeat (first | apply Kd.R_alloc | apply Kd.R_drewN | apply Kd.R_drew)); exact HO_3.out⟩, ⟨by (with_reducible repeat (first | refine blk_drewN ?_ _ | refine blk_drew ?_ | refine blk_alloc ?_ _)); exact BK182.out⟩, ⟨by repeat (first | (with_reducible first | exact HB.out | apply below_alloc | apply pw_below_drewN | apply below_drew1 | refine below_set ?_ GE182.out) | exact HB.out)⟩⟩
                      · rw [if_neg c31] at H
                        have c31b0 : (x4_3 == 7) = false := beq_eq_false_iff_ne.mpr c31
                        have c31b1 : (x4_3 != 7) = true := bne_iff_ne.mpr c31
                        (first | rw [c31b0] | (simp only [i64_w, i32_w]; rw [c31b0]) | skip)
                        have H' := Aside0.mk H
                        clear H
                        go_wp2
                        go_meet
                        case rel => exact ⟨_, (1048576), (by first | rfl | (simp; done) | (simp [*]; done)), H', ⟨by have := HJ1.out; have := HJ13.out; have := HK3.out; first | omega | exact Nat.le_refl _⟩, ⟨by (with_reducible repeat (first | apply Kd.R_alloc | apply Kd.R_drewN | apply Kd.R_drew)); exact HO_3.out⟩, ⟨by (with_reducible repeat (first | refine blk_drewN ?_ _ | refine blk_drew ?_ | refine blk_alloc ?_ _)); exact BK182.out⟩, ⟨by repeat (first | (with_reducible first | exact HB.out | apply below_alloc | apply pw_below_drewN | apply below_drew1 | refine below_set ?_ GE182.out) | exact HB.out)⟩⟩
                    case rest =>
                      clear HC29
                      try clear c1
                      try clear c2
                      try clear p2
                      try clear c3
                      try clear c4
                      try clear c4b0
                      try clear c6
                      try clear c6b0
                      try clear p6
                      try clear c8
                      try clear c8b0
                      try clear c10
                      try clear c10b0
                      try clear c13
                      try clear c15
                      try clear c15b0
                      try clear c15b1
                      try clear c17
                      try clear c17b0
                      try clear c19
                      try clear c19b0
                      try clear c19b1
                      try clear c21
                      try clear c21b0
                      try clear c24
                      try clear c28
                      try clear c28b0
                      try clear c31
                      try clear c31b0
                      try clear c31b1
                      try clear hcz11_0
                      try clear hcz11_1
                      try clear hcz11_10
                      try clear hcz11_11
                      try clear hcz11_12
                      try clear hcz11_13
                      try clear hcz11_14
                      try clear hcz11_15
                      try clear hcz11_2
                      try clear hcz11_3
                      try clear hcz11_4
                      try clear hcz11_5
                      try clear hcz11_6
                      try clear hcz11_7
                      try clear hcz11_8
                      try clear hcz11_9
                      try clear hcz12_0
                      try clear hcz12_1
                      try clear hcz12_10
                      try clear hcz12_11
                      try clear hcz12_12
                      try clear hcz12_13
                      try clear hcz12_14
                      try clear hcz12_15
                      try clear hcz12_2
                      try clear hcz12_3
                      try clear hcz12_4
                      try clear hcz12_5
                      try clear hcz12_6
                      try clear hcz12_7
                      try clear hcz12_8
                      try clear hcz12_9
                      try clear hcz16_0
                      try clear hcz16_1
                      try clear hcz16_10
                      try clear hcz16_11
                      try clear hcz16_12
                      try clear hcz16_13
                      try clear hcz16_14
                      try clear hcz16_15
                      try clear hcz16_2
                      try clear hcz16_3
                      try clear hcz16_4
                      try clear hcz16_5
                      try clear hcz16_6
                      try clear hcz16_7
                      try clear hcz16_8
                      try clear hcz16_9
                      try clear hcz18_0
                      try clear hcz18_1
                      try clear hcz18_10
                      try clear hcz18_11
                      try clear hcz18_12
                      try clear hcz18_13
                      try clear hcz18_14
                      try clear hcz18_15
                      try clear hcz18_2
                      try clear hcz18_3
                      try clear hcz18_4
                      try clear hcz18_5
                      try clear hcz18_6
                      try clear hcz18_7
                      try clear hcz18_8
                      try clear hcz18_9
                      try clear hcz20_0
                      try clear hcz20_1
                      try clear hcz20_10
                      try clear hcz20_11
                      try clear hcz20_12
                      try clear hcz20_13
                      try clear hcz20_14
                      try clear hcz20_15
                      try clear hcz20_2
                      try clear hcz20_3
                      try clear hcz20_4
                      try clear hcz20_5
                      try clear hcz20_6
                      try clear hcz20_7
                      try clear hcz20_8
                      try clear hcz20_9
                      try clear hcz22_0
                      try clear hcz22_1
                      try clear hcz22_10
                      try clear hcz22_11
                      try clear hcz22_12
                      try clear hcz22_13
                      try clear hcz22_14
                      try clear hcz22_15
                      try clear hcz22_2
                      try clear hcz22_3
                      try clear hcz22_4
                      try clear hcz22_5
                      try clear hcz22_6
                      try clear hcz22_7
                      try clear hcz22_8
                      try clear hcz22_9
                      try clear hcz23_0
                      try clear hcz23_1
                      try clear hcz23_10
                      try clear hcz23_11
                      try clear hcz23_12
                      try clear hcz23_13
                      try clear hcz23_14
                      try clear hcz23_15
                      try clear hcz23_2
                      try clear hcz23_3
                      try clear hcz23_4
                      try clear hcz23_5
                      try clear hcz23_6
                      try clear hcz23_7
                      try clear hcz23_8
                      try clear hcz23_9
                      try clear hcz25_0
                      try clear hcz25_1
                      try clear hcz25_10
                      try clear hcz25_11
                      try clear hcz25_12
                      try clear hcz25_13
                      try clear hcz25_14
                      try clear hcz25_15
                      try clear hcz25_2
                      try clear hcz25_3
                      try clear hcz25_4
                      try clear hcz25_5
                      try clear hcz25_6
                      try clear hcz25_7
                      try clear hcz25_8
                      try clear hcz25_9
                      try clear hcz5_0
                      try clear hcz5_1
                      try clear hcz5_10
                      try clear hcz5_11
                      try clear hcz5_12
                      try clear hcz5_13
                      try clear hcz5_14
                      try clear hcz5_15
                      try clear hcz5_2
                      try clear hcz5_3
                      try clear hcz5_4
                      try clear hcz5_5
                      try clear hcz5_6
                      try clear hcz5_7
                      try clear hcz5_8
                      try clear hcz5_9
                      try clear hcz7_0
                      try clear hcz7_1
                      try clear hcz7_10
                      try clear hcz7_11
                      try clear hcz7_12
                      try clear hcz7_13
                      try clear hcz7_14
                      try clear hcz7_15
                      try clear hcz7_2
                      try clear hcz7_3
                      try clear hcz7_4
                      try clear hcz7_5
                      try clear hcz7_6
                      try clear hcz7_7
                      try clear hcz7_8
                      try clear hcz7_9
                      try clear hcz9_0
                      try clear hcz9_1
                      try clear hcz9_10
                      try clear hcz9_11
                      try clear hcz9_12
                      try clear hcz9_13
                      try clear hcz9_14
                      try clear hcz9_15
                      try clear hcz9_2
                      try clear hcz9_3
                      try clear hcz9_4
                      try clear hcz9_5
                      try clear hcz9_6
                      try clear hcz9_7
                      try clear hcz9_8
                      try clear hcz9_9
                      try clear hfz11_0
                      try clear hfz11_1
                      try clear hfz11_10
                      try clear hfz11_11
                      try clear hfz11_12
                      try clear hfz11_13
                      try clear hfz11_14
                      try clear hfz11_15
                      try clear hfz11_2
                      try clear hfz11_3
                      try clear hfz11_4
                      try clear hfz11_5
                      try clear hfz11_6
                      try clear hfz11_7
                      try clear hfz11_8
                      try clear hfz11_9
                      try clear hfz12_0
                      try clear hfz12_1
                      try clear hfz12_10
                      try clear hfz12_11
                      try clear hfz12_12
                      try clear hfz12_13
                      try clear hfz12_14
                      try clear hfz12_15
                      try clear hfz12_2
                      try clear hfz12_3
                      try clear hfz12_4
                      try clear hfz12_5
                      try clear hfz12_6
                      try clear hfz12_7
                      try clear hfz12_8
                      try clear hfz12_9
                      try clear hfz16_0
                      try clear hfz16_1
                      try clear hfz16_10
                      try clear hfz16_11
                      try clear hfz16_12
                      try clear hfz16_13
                      try clear hfz16_14
                      try clear hfz16_15
                      try clear hfz16_2
                      try clear hfz16_3
                      try clear hfz16_4
                      try clear hfz16_5
                      try clear hfz16_6
                      try clear hfz16_7
                      try clear hfz16_8
                      try clear hfz16_9
                      try clear hfz18_0
                      try clear hfz18_1
                      try clear hfz18_10
                      try clear hfz18_11
                      try clear hfz18_12
                      try clear hfz18_13
                      try clear hfz18_14
                      try clear hfz18_15
                      try clear hfz18_2
                      try clear hfz18_3
                      try clear hfz18_4
                      try clear hfz18_5
                      try clear hfz18_6
                      try clear hfz18_7
                      try clear hfz18_8
                      try clear hfz18_9
                      try clear hfz20_0
                      try clear hfz20_1
                      try clear hfz20_10
                      try clear hfz20_11
                      try clear hfz20_12
                      try clear hfz20_13
                      try clear hfz20_14
                      try clear hfz20_15
                      try clear hfz20_2
                      try clear hfz20_3
                      try clear hfz20_4
                      try clear hfz20_5
                      try clear hfz20_6
                      try clear hfz20_7
                      try clear hfz20_8
                      try clear hfz20_9
                      try clear hfz22_0
                      try clear hfz22_1
                      try clear hfz22_10
                      try clear hfz22_11
                      try clear hfz22_12
                      try clear hfz22_13
                      try clear hfz22_14
                      try clear hfz22_15
                      try clear hfz22_2
                      try clear hfz22_3
                      try clear hfz22_4
                      try clear hfz22_5
                      try clear hfz22_6
                      try clear hfz22_7
                      try clear hfz22_8
                      try clear hfz22_9
                      try clear hfz23_0
                      try clear hfz23_1
                      try clear hfz23_10
                      try clear hfz23_11
                      try clear hfz23_12
                      try clear hfz23_13
                      try clear hfz23_14
                      try clear hfz23_15
                      try clear hfz23_2
                      try clear hfz23_3
                      try clear hfz23_4
                      try clear hfz23_5
                      try clear hfz23_6
                      try clear hfz23_7
                      try clear hfz23_8
                      try clear hfz23_9
                      try clear hfz25_0
                      try clear hfz25_1
                      try clear hfz25_10
                      try clear hfz25_11
                      try clear hfz25_12
                      try clear hfz25_13
                      try clear hfz25_14
                      try clear hfz25_15
                      try clear hfz25_2
                      try clear hfz25_3
                      try clear hfz25_4
                      try clear hfz25_5
                      try clear hfz25_6
                      try clear hfz25_7
                      try clear hfz25_8
                      try clear hfz25_9
                      try clear hfz5_0
                      try clear hfz5_1
                      try clear hfz5_10
                      try clear hfz5_11
                      try clear hfz5_12
                      try clear hfz5_13
                      try clear hfz5_14
                      try clear hfz5_15
                      try clear hfz5_2
                      try clear hfz5_3
                      try clear hfz5_4
                      try clear hfz5_5
                      try clear hfz5_6
                      try clear hfz5_7
                      try clear hfz5_8
                      try clear hfz5_9
                      try clear hfz7_0
                      try clear hfz7_1
                      try clear hfz7_10
                      try clear hfz7_11
                      try clear hfz7_12
                      try clear hfz7_13
                      try clear hfz7_14
                      try clear hfz7_15
                      try clear hfz7_2
                      try clear hfz7_3
                      try clear hfz7_4
                      try clear hfz7_5
                      try clear hfz7_6
                      try clear hfz7_7
                      try clear hfz7_8
                      try clear hfz7_9
                      try clear hfz9_0
                      try clear hfz9_1
                      try clear hfz9_10
                      try clear hfz9_11
                      try clear hfz9_12
                      try clear hfz9_13
                      try clear hfz9_14
                      try clear hfz9_15
                      try clear hfz9_2
                      try clear hfz9_3
                      try clear hfz9_4
                      try clear hfz9_5
                      try clear hfz9_6
                      try clear hfz9_7
                      try clear hfz9_8
                      try clear hfz9_9
                      try clear p2
                      try clear p6
                      obtain ⟨kq, x5_28, rfl, HA, HJ28, HO_3, BK182, HB⟩ := hcut
                      cases kq with
                      | zero => exact absurd HA.out (by simp [carouselref16_Check.j3])
                      | succ kj28 =>
                        have H := HA.out
                        clear HA
                        simp only [carouselref16_Check.j3] at H
                        by_cases c32 : 0 ≤ x4_3
                        · rw [if_pos c32] at H
                          have c32b0 : decide (0 ≤ x4_3) = true := decide_eq_true c32
                          clear c32
                          by_cases c33 : x4_3 < (y183.length : Int)
                          · rw [if_pos c33] at H
                            have c33b0 : decide (x4_3 < (y183.length : Int)) = true := decide_eq_true c33
                            clear c33
                            by_cases c34 : (rd y183 x4_3) < 1
                            · rw [if_pos c34] at H
                              have c34b0 : decide ((rd y183 x4_3) < 1) = true := decide_eq_true c34
                              clear c34
                              obtain rfl := Option.some.inj H
                              have p186 : 0 ≤ (x4_3 : Int) := of_decide_eq_true (by first | (with_reducible assumption) | assumption)
                              have q186 : x4_3 < (y183.length : Int) := of_decide_eq_true (by first | (with_reducible assumption) | assumption)
                              obtain ⟨ad186, e186, hx186_0⟩ := Kd.at_int (Kd.R_reads' HO_3.out).2.2 x4_3 p186 q186
                              cases e186
                              replace p186 := eq_true p186
                              replace q186 := eq_true q186
                              go_wp2
                              go_ret
                              exact ⟨by first | rfl | (simp [errW_none, errW_some] <;> rfl) | (simp [*, errW_none, errW_some] <;> rfl), by repeat (first | (with_reducible first | exact HB.out | apply below_alloc | apply pw_below_drewN | apply below_drew1 | refine below_set ?_ GE182.out) | exact HB.out)⟩
                            · rw [if_neg c34] at H
                              have c34b0 : decide ((rd y183 x4_3) < 1) = false := decide_eq_false c34
                              clear c34
                              by_cases c35 : (rd y183 x4_3) > x5_28
                              · rw [if_pos c35] at H
                                have c35b0 : decide (x5_28 < (rd y183 x4_3)) = true := decide_eq_true c35
                                clear c35
                                obtain rfl := Option.some.inj H
                                have p186 : 0 ≤ (x4_3 : Int) := of_decide_eq_true (by first | (with_reducible assumption) | assumption)
                                have q186 : x4_3 < (y183.length : Int) := of_decide_eq_true (by first | (with_reducible assumption) | assumption)
                                obtain ⟨ad186, e186, hx186_0⟩ := Kd.at_int (Kd.R_reads' HO_3.out).2.2 x4_3 p186 q186
                                cases e186
                                replace p186 := eq_true p186
                                replace q186 := eq_true q186
                                have p187 : 0 ≤ (x4_3 : Int) := of_decide_eq_true (by first | (with_reducible assumption) | assumption)
                                have q187 : x4_3 < (y183.length : Int) := of_decide_eq_true (by first | (with_reducible assumption) | assumption)
                                obtain ⟨ad187, e187, hx187_0⟩ := Kd.at_int (Kd.R_reads' HO_3.out).2.2 x4_3 p187 q187
                                obtain rfl : ad186 = ad187 := (by injection e187)
                                replace p187 := eq_true p187
                                replace q187 := eq_true q187
                                go_wp2
                                go_ret
                                exact ⟨by first | rfl | (simp [errW_none, errW_some] <;> rfl) | (simp [*, errW_none, errW_some] <;> rfl), by repeat (first | (with_reducible first | exact HB.out | apply below_alloc | apply pw_below_drewN | apply below_drew1 | refine below_set ?_ GE182.out) | exact HB.out)⟩
                              · rw [if_neg c35] at H
                                have c35b0 : decide (x5_28 < (rd y183 x4_3)) = false := decide_eq_false c35
                                clear c35
                                have H' := Aside0.mk H
                                clear H
                                have p186 : 0 ≤ (x4_3 : Int) := of_decide_eq_true (by first | (with_reducible assumption) | assumption)
                                have q186 : x4_3 < (y183.length : Int) := of_decide_eq_true (by first | (with_reducible assumption) | assumption)
                                obtain ⟨ad186, e186, hx186_0⟩ := Kd.at_int (Kd.R_reads' HO_3.out).2.2 x4_3 p186 q186
                                cases e186
                                replace p186 := eq_true p186
                                replace q186 := eq_true q186
                                have p187 : 0 ≤ (x4_3 : Int) := of_decide_eq_true (by first | (with_reducible assumption) | assumption)
                                have q187 : x4_3 < (y183.length : Int) := of_decide_eq_true (by first | (with_reducible assumption) | assumption)
                                obtain ⟨ad187, e187, hx187_0⟩ := Kd.at_int (Kd.R_reads' HO_3.out).2.2 x4_3 p187 q187
                                obtain rfl : ad186 = ad187 := (by injection e187)
                                replace p187 := eq_true p187
                                replace q187 := eq_true q187
                                go_wp2
                                go_roundg kj28
                                case measure => have := HJ1.out; have := HJ13.out; have := HK3.out; have := HJ28.out; omega
                                case rel => exact ⟨(wrap64 (x4_3 + 1)), (by first | rfl | (simp; done) | (simp [*]; done)), H', ⟨by have := HJ1.out; have := HJ13.out; have := HK3.out; have := HJ28.out; omega⟩, ⟨by (with_reducible repeat (first | apply Kd.R_alloc | apply Kd.R_drewN | apply Kd.R_drew)); exact HO_3.out⟩, ⟨by (with_reducible repeat (first | refine blk_drewN ?_ _ | refine blk_drew ?_ | refine blk_alloc ?_ _)); exact BK182.out⟩, ⟨by repeat (first | (with_reducible first | exact HB.out | apply below_alloc | apply pw_below_drewN | apply below_drew1 | refine below_set ?_ GE182.out) | exact HB.out)⟩⟩
                          · rw [if_neg c33] at H
                            exact absurd H (by simp)
                        · rw [if_neg c32] at H
                          exact absurd H (by simp)
                  · rw [if_neg c28] at H
                    have c28b0 : decide (x4_3 < (y183.length : Int)) = false := decide_eq_false c28
                    clear c28
                    have HC36 := Aside0.mk H
                    clear H
                    obtain ⟨Ao37, co37, eo37⟩ := Kd.R_slice HO_3.out
                    subst eo37
                    go_upto_region 14 with (fail)
                    go_cut [115] (fun v115 wc => ∃ (kq : Nat) (x115_35 : Bool), v115 = .bool x115_35 ∧ Aside0 (carouselref16_Check.j4 kq x115_35 = some r) ∧ Aside0 (kq ≤ k3) ∧ Aside0 (wc.heap[gb182]? = some (.cells #[.int .i64 a0_0, .int .i64 a0_1, .int .u8 a0_2, .int .u16 a0_3, .int .u16 a0_4, .int .i64 a0_5, .int .i64 a0_6, .int .i64 a0_7, .int .i64 a0_8, .int .i64 a0_9, .int .i64 a0_10, .int .i64 a0_11, .int .i64 a0_12, .int .i64 a0_13, .int .i64 a0_14, .bool a0_15] 66 (0, 0))) ∧ Aside0 (Below w.heap.size w wc))
                    case first =>
                      have H := HC36.out
                      clear HC36
                      by_cases c38 : a0_13 < 1
                      · rw [if_pos c38] at H
                        have c38b0 : decide (a0_13 < 1) = true := decide_eq_true c38
                        clear c38
                        (first | rw [c38b0] | (simp only [i64_w, i32_w]; rw [c38b0]) | skip)
                        have H' := Aside0.mk H
                        clear H
                        have hcz39_0 : wr.cell? ⟨gb182, 0, none⟩ = some (.int .i64 a0_0) := (blk_cell BK182.out 0).trans rfl
                        have hcz39_1 : wr.cell? ⟨gb182, 1, none⟩ = some (.int .i64 a0_1) := (blk_cell BK182.out 1).trans rfl
                        have hcz39_2 : wr.cell? ⟨gb182, 2, none⟩ = some (.int .u8 a0_2) := (blk_cell BK182.out 2).trans rfl
                        have hcz39_3 : wr.cell? ⟨gb182, 3, none⟩ = some (.int .u16 a0_3) := (blk_cell BK182.out 3).trans rfl
                        have hcz39_4 : wr.cell? ⟨gb182, 4, none⟩ = some (.int .u16 a0_4) := (blk_cell BK182.out 4).trans rfl
                        have hcz39_5 : wr.cell? ⟨gb182, 5, none⟩ = some (.int .i64 a0_5) := (blk_cell BK182.out 5).trans rfl
                        have hcz39_6 : wr.cell? ⟨gb182, 6, none⟩ = some (.int .i64 a0_6) := (blk_cell BK182.out 6).trans rfl
                        have hcz39_7 : wr.cell? ⟨gb182, 7, none⟩ = some (.int .i64 a0_7) := (blk_cell BK182.out 7).trans rfl
                        have hcz39_8 : wr.cell? ⟨gb182, 8, none⟩ = some (.int .i64 a0_8) := (blk_cell BK182.out 8).trans rfl
                        have hcz39_9 : wr.cell? ⟨gb182, 9, none⟩ = some (.int .i64 a0_9) := (blk_cell BK182.out 9).trans rfl
                        have hcz39_10 : wr.cell? ⟨gb182, 10, none⟩ = some (.int .i64 a0_10) := (blk_cell BK182.out 10).trans rfl
                        have hcz39_11 : wr.cell? ⟨gb182, 11, none⟩ = some (.int .i64 a0_11) := (blk_cell BK182.out 11).trans rfl
                        have hcz39_12 : wr.cell? ⟨gb182, 12, none⟩ = some (.int .i64 a0_12) := (blk_cell BK182.out 12).trans rfl
                        have hcz39_13 : wr.cell? ⟨gb182, 13, none⟩ = some (.int .i64 a0_13) := (blk_cell BK182.out 13).trans rfl
                        have hcz39_14 : wr.cell? ⟨gb182, 14, none⟩ = some (.int .i64 a0_14) := (blk_cell BK182.out 14).trans rfl
                        have hcz39_15 : wr.cell? ⟨gb182, 15, none⟩ = some (.bool a0_15) := (blk_cell BK182.out 15).trans rfl
                        have hfz39_0 := blk_frozen BK182.out 0
                        have hfz39_1 := blk_frozen BK182.out 1
                        have hfz39_2 := blk_frozen BK182.out 2
                        have hfz39_3 := blk_frozen BK182.out 3
                        have hfz39_4 := blk_frozen BK182.out 4
                        have hfz39_5 := blk_frozen BK182.out 5
                        have hfz39_6 := blk_frozen BK182.out 6
                        have hfz39_7 := blk_frozen BK182.out 7
                        have hfz39_8 := blk_frozen BK182.out 8
                        have hfz39_9 := blk_frozen BK182.out 9
                        have hfz39_10 := blk_frozen BK182.out 10
                        have hfz39_11 := blk_frozen BK182.out 11
                        have hfz39_12 := blk_frozen BK182.out 12
                        have hfz39_13 := blk_frozen BK182.out 13
                        have hfz39_14 := blk_frozen BK182.out 14
                        have hfz39_15 := blk_frozen BK182.out 15
                        go_wp2
                        go_meet
                        case rel => exact ⟨_, (true), (by first | rfl | (simp; done) | (simp [*]; done)), H', ⟨by have := HJ1.out; have := HJ13.out; have := HK3.out; first | omega | exact Nat.le_refl _⟩, ⟨by (with_reducible repeat (first | refine blk_drewN ?_ _ | refine blk_drew ?_ | refine blk_alloc ?_ _)); exact BK182.out⟩, ⟨by repeat (first | (with_reducible first | exact HB.out | apply below_alloc | apply pw_below_drewN | apply below_drew1 | refine below_set ?_ GE182.out) | exact HB.out)⟩⟩
                      · rw [if_neg c38] at H
                        have c38b0 : decide (a0_13 < 1) = false := decide_eq_false c38
                        clear c38
                        (first | rw [c38b0] | (simp only [i64_w, i32_w]; rw [c38b0]) | skip)
                        by_cases c40 : a0_13 > 1024
                        · rw [if_pos c40] at H
                          have c40b0 : decide (1024 < a0_13) = true := decide_eq_true c40
                          clear c40
                          have H' := Aside0.mk H
                          clear H
                          have hcz41_0 : wr.cell? ⟨gb182, 0, none⟩ = some (.int .i64 a0_0) := (blk_cell BK182.out 0).trans rfl
                          have hcz41_1 : wr.cell? ⟨gb182, 1, none⟩ = some (.int .i64 a0_1) := (blk_cell BK182.out 1).trans rfl
                          have hcz41_2 : wr.cell? ⟨gb182, 2, none⟩ = some (.int .u8 a0_2) := (blk_cell BK182.out 2).trans rfl
                          have hcz41_3 : wr.cell? ⟨gb182, 3, none⟩ = some (.int .u16 a0_3) := (blk_cell BK182.out 3).trans rfl
                          have hcz41_4 : wr.cell? ⟨gb182, 4, none⟩ = some (.int .u16 a0_4) := (blk_cell BK182.out 4).trans rfl
                          have hcz41_5 : wr.cell? ⟨gb182, 5, none⟩ = some (.int .i64 a0_5) := (blk_cell BK182.out 5).trans rfl
                          have hcz41_6 : wr.cell? ⟨gb182, 6, none⟩ = some (.int .i64 a0_6) := (blk_cell BK182.out 6).trans rfl
                          have hcz41_7 : wr.cell? ⟨gb182, 7, none⟩ = some (.int .i64 a0_7) := (blk_cell BK182.out 7).trans rfl
                          have hcz41_8 : wr.cell? ⟨gb182, 8, none⟩ = some (.int .i64 a0_8) := (blk_cell BK182.out 8).trans rfl
                          have hcz41_9 : wr.cell? ⟨gb182, 9, none⟩ = some (.int .i64 a0_9) := (blk_cell BK182.out 9).trans rfl
                          have hcz41_10 : wr.cell? ⟨gb182, 10, none⟩ = some (.int .i64 a0_10) := (blk_cell BK182.out 10).trans rfl
                          have hcz41_11 : wr.cell? ⟨gb182, 11, none⟩ = some (.int .i64 a0_11) := (blk_cell BK182.out 11).trans rfl
                          have hcz41_12 : wr.cell? ⟨gb182, 12, none⟩ = some (.int .i64 a0_12) := (blk_cell BK182.out 12).trans rfl
                          have hcz41_13 : wr.cell? ⟨gb182, 13, none⟩ = some (.int .i64 a0_13) := (blk_cell BK182.out 13).trans rfl
                          have hcz41_14 : wr.cell? ⟨gb182, 14, none⟩ = some (.int .i64 a0_14) := (blk_cell BK182.out 14).trans rfl
                          have hcz41_15 : wr.cell? ⟨gb182, 15, none⟩ = some (.bool a0_15) := (blk_cell BK182.out 15).trans rfl
                          have hfz41_0 := blk_frozen BK182.out 0
                          have hfz41_1 := blk_frozen BK182.out 1
                          have hfz41_2 := blk_frozen BK182.out 2
                          have hfz41_3 := blk_frozen BK182.out 3
                          have hfz41_4 := blk_frozen BK182.out 4
                          have hfz41_5 := blk_frozen BK182.out 5
                          have hfz41_6 := blk_frozen BK182.out 6
                          have hfz41_7 := blk_frozen BK182.out 7
                          have hfz41_8 := blk_frozen BK182.out 8
                          have hfz41_9 := blk_frozen BK182.out 9
                          have hfz41_10 := blk_frozen BK182.out 10
                          have hfz41_11 := blk_frozen BK182.out 11
                          have hfz41_12 := blk_frozen BK182.out 12
                          have hfz41_13 := blk_frozen BK182.out 13
                          have hfz41_14 := blk_frozen BK182.out 14
                          have hfz41_15 := blk_frozen BK182.out 15
                          go_wp2
                          go_meet
                          case rel => exact ⟨_, (true), (by first | rfl | (simp; done) | (simp [*]; done)), H', ⟨by have := HJ1.out; have := HJ13.out; have := HK3.out; first | omega | exact Nat.le_refl _⟩, ⟨by (with_reducible repeat (first | refine blk_drewN ?_ _ | refine blk_drew ?_ | refine blk_alloc ?_ _)); exact BK182.out⟩, ⟨by repeat (first | (with_reducible first | exact HB.out | apply below_alloc | apply pw_below_drewN | apply below_drew1 | refine below_set ?_ GE182.out) | exact HB.out)⟩⟩
                        · rw [if_neg c40] at H
                          have c40b0 : decide (1024 < a0_13) = false := decide_eq_false c40
                          clear c40
                          by_cases c42 : a0_14 < 1
                          · rw [if_pos c42] at H
                            have c42b0 : decide (a0_14 < 1) = true := decide_eq_true c42
                            clear c42
                            have H' := Aside0.mk H
                            clear H
                            have hcz43_0 : wr.cell? ⟨gb182, 0, none⟩ = some (.int .i64 a0_0) := (blk_cell BK182.out 0).trans rfl
                            have hcz43_1 : wr.cell? ⟨gb182, 1, none⟩ = some (.int .i64 a0_1) := (blk_cell BK182.out 1).trans rfl
                            have hcz43_2 : wr.cell? ⟨gb182, 2, none⟩ = some (.int .u8 a0_2) := (blk_cell BK182.out 2).trans rfl
                            have hcz43_3 : wr.cell? ⟨gb182, 3, none⟩ = some (.int .u16 a0_3) := (blk_cell BK182.out 3).trans rfl
                            have hcz43_4 : wr.cell? ⟨gb182, 4, none⟩ = some (.int .u16 a0_4) := (blk_cell BK182.out 4).trans rfl
                            have hcz43_5 : wr.cell? ⟨gb182, 5, none⟩ = some (.int .i64 a0_5) := (blk_cell BK182.out 5).trans rfl
                            have hcz43_6 : wr.cell? ⟨gb182, 6, none⟩ = some (.int .i64 a0_6) := (blk_cell BK182.out 6).trans rfl
                            have hcz43_7 : wr.cell? ⟨gb182, 7, none⟩ = some (.int .i64 a0_7) := (blk_cell BK182.out 7).trans rfl
                            have hcz43_8 : wr.cell? ⟨gb182, 8, none⟩ = some (.int .i64 a0_8) := (blk_cell BK182.out 8).trans rfl
                            have hcz43_9 : wr.cell? ⟨gb182, 9, none⟩ = some (.int .i64 a0_9) := (blk_cell BK182.out 9).trans rfl
                            have hcz43_10 : wr.cell? ⟨gb182, 10, none⟩ = some (.int .i64 a0_10) := (blk_cell BK182.out 10).trans rfl
                            have hcz43_11 : wr.cell? ⟨gb182, 11, none⟩ = some (.int .i64 a0_11) := (blk_cell BK182.out 11).trans rfl
                            have hcz43_12 : wr.cell? ⟨gb182, 12, none⟩ = some (.int .i64 a0_12) := (blk_cell BK182.out 12).trans rfl
                            have hcz43_13 : wr.cell? ⟨gb182, 13, none⟩ = some (.int .i64 a0_13) := (blk_cell BK182.out 13).trans rfl
                            have hcz43_14 : wr.cell? ⟨gb182, 14, none⟩ = some (.int .i64 a0_14) := (blk_cell BK182.out 14).trans rfl
                            have hcz43_15 : wr.cell? ⟨gb182, 15, none⟩ = some (.bool a0_15) := (blk_cell BK182.out 15).trans rfl
                            have hfz43_0 := blk_frozen BK182.out 0
                            have hfz43_1 := blk_frozen BK182.out 1
                            have hfz43_2 := blk_frozen BK182.out 2
                            have hfz43_3 := blk_frozen BK182.out 3
                            have hfz43_4 := blk_frozen BK182.out 4
                            have hfz43_5 := blk_frozen BK182.out 5
                            have hfz43_6 := blk_frozen BK182.out 6
                            have hfz43_7 := blk_frozen BK182.out 7
                            have hfz43_8 := blk_frozen BK182.out 8
                            have hfz43_9 := blk_frozen BK182.out 9
                            have hfz43_10 := blk_frozen BK182.out 10
                            have hfz43_11 := blk_frozen BK182.out 11
                            have hfz43_12 := blk_frozen BK182.out 12
                            have hfz43_13 := blk_frozen BK182.out 13
                            have hfz43_14 := blk_frozen BK182.out 14
                            have hfz43_15 := blk_frozen BK182.out 15
                            go_wp2
                            go_meet
                            case rel => exact ⟨_, (true), (by first | rfl | (simp; done) | (simp [*]; done)), H', ⟨by have := HJ1.out; have := HJ13.out; have := HK3.out; first | omega | exact Nat.le_refl _⟩, ⟨by (with_reducible repeat (first | refine blk_drewN ?_ _ | refine blk_drew ?_ | refine blk_alloc ?_ _)); exact BK182.out⟩, ⟨by repeat (first | (with_reducible first | exact HB.out | apply below_alloc | apply pw_below_drewN | apply below_drew1 | refine below_set ?_ GE182.out) | exact HB.out)⟩⟩
                          · rw [if_neg c42] at H
                            have c42b0 : decide (a0_14 < 1) = false := decide_eq_false c42
                            clear c42
                            have H' := Aside0.mk H
                            clear H
                            have hcz44_0 : wr.cell? ⟨gb182, 0, none⟩ = some (.int .i64 a0_0) := (blk_cell BK182.out 0).trans rfl
                            have hcz44_1 : wr.cell? ⟨gb182, 1, none⟩ = some (.int .i64 a0_1) := (blk_cell BK182.out 1).trans rfl
                            have hcz44_2 : wr.cell? ⟨gb182, 2, none⟩ = some (.int .u8 a0_2) := (blk_cell BK182.out 2).trans rfl
                            have hcz44_3 : wr.cell? ⟨gb182, 3, none⟩ = some (.int .u16 a0_3) := (blk_cell BK182.out 3).trans rfl
                            have hcz44_4 : wr.cell? ⟨gb182, 4, none⟩ = some (.int .u16 a0_4) := (blk_cell BK182.out 4).trans rfl
                            have hcz44_5 : wr.cell? ⟨gb182, 5, none⟩ = some (.int .i64 a0_5) := (blk_cell BK182.out 5).trans rfl
                            have hcz44_6 : wr.cell? ⟨gb182, 6, none⟩ = some (.int .i64 a0_6) := (blk_cell BK182.out 6).trans rfl
                            have hcz44_7 : wr.cell? ⟨gb182, 7, none⟩ = some (.int .i64 a0_7) := (blk_cell BK182.out 7).trans rfl
                            have hcz44_8 : wr.cell? ⟨gb182, 8, none⟩ = some (.int .i64 a0_8) := (blk_cell BK182.out 8).trans rfl
                            have hcz44_9 : wr.cell? ⟨gb182, 9, none⟩ = some (.int .i64 a0_9) := (blk_cell BK182.out 9).trans rfl
                            have hcz44_10 : wr.cell? ⟨gb182, 10, none⟩ = some (.int .i64 a0_10) := (blk_cell BK182.out 10).trans rfl
                            have hcz44_11 : wr.cell? ⟨gb182, 11, none⟩ = some (.int .i64 a0_11) := (blk_cell BK182.out 11).trans rfl
                            have hcz44_12 : wr.cell? ⟨gb182, 12, none⟩ = some (.int .i64 a0_12) := (blk_cell BK182.out 12).trans rfl
                            have hcz44_13 : wr.cell? ⟨gb182, 13, none⟩ = some (.int .i64 a0_13) := (blk_cell BK182.out 13).trans rfl
                            have hcz44_14 : wr.cell? ⟨gb182, 14, none⟩ = some (.int .i64 a0_14) := (blk_cell BK182.out 14).trans rfl
                            have hcz44_15 : wr.cell? ⟨gb182, 15, none⟩ = some (.bool a0_15) := (blk_cell BK182.out 15).trans rfl
                            have hfz44_0 := blk_frozen BK182.out 0
                            have hfz44_1 := blk_frozen BK182.out 1
                            have hfz44_2 := blk_frozen BK182.out 2
                            have hfz44_3 := blk_frozen BK182.out 3
                            have hfz44_4 := blk_frozen BK182.out 4
                            have hfz44_5 := blk_frozen BK182.out 5
                            have hfz44_6 := blk_frozen BK182.out 6
                            have hfz44_7 := blk_frozen BK182.out 7
                            have hfz44_8 := blk_frozen BK182.out 8
                            have hfz44_9 := blk_frozen BK182.out 9
                            have hfz44_10 := blk_frozen BK182.out 10
                            have hfz44_11 := blk_frozen BK182.out 11
                            have hfz44_12 := blk_frozen BK182.out 12
                            have hfz44_13 := blk_frozen BK182.out 13
                            have hfz44_14 := blk_frozen BK182.out 14
                            have hfz44_15 := blk_frozen BK182.out 15
                            go_wp2
                            go_meet
                            case rel => exact ⟨_, (decide (a0_14 > 256)), (by first | rfl | (simp; done) | (simp [*]; done)), H', ⟨by have := HJ1.out; have := HJ13.out; have := HK3.out; first | omega | exact Nat.le_refl _⟩, ⟨by (with_reducible repeat (first | refine blk_drewN ?_ _ | refine blk_drew ?_ | refine blk_alloc ?_ _)); exact BK182.out⟩, ⟨by repeat (first | (with_reducible first | exact HB.out | apply below_alloc | apply pw_below_drewN | apply below_drew1 | refine below_set ?_ GE182.out) | exact HB.out)⟩⟩
                    case rest =>
                      clear HC36
                      try clear p1
                      try clear q1
                      try clear hx1
                      try clear c2
                      try clear p2
                      try clear c3
                      try clear c4
                      try clear p6
                      try clear p18
                      try clear q18
                      try clear hx18
                      try clear c28
                      try clear c28b0
                      try clear c32
                      try clear c32b0
                      try clear c33
                      try clear c33b0
                      try clear c34
                      try clear c34b0
                      try clear c35
                      try clear c35b0
                      try clear c38
                      try clear c38b0
                      try clear c40
                      try clear c40b0
                      try clear c42
                      try clear c42b0
                      try clear hcz12_0
                      try clear hcz12_1
                      try clear hcz12_10
                      try clear hcz12_11
                      try clear hcz12_12
                      try clear hcz12_13
                      try clear hcz12_14
                      try clear hcz12_15
                      try clear hcz12_2
                      try clear hcz12_3
                      try clear hcz12_4
                      try clear hcz12_5
                      try clear hcz12_6
                      try clear hcz12_7
                      try clear hcz12_8
                      try clear hcz12_9
                      try clear hcz16_0
                      try clear hcz16_1
                      try clear hcz16_10
                      try clear hcz16_11
                      try clear hcz16_12
                      try clear hcz16_13
                      try clear hcz16_14
                      try clear hcz16_15
                      try clear hcz16_2
                      try clear hcz16_3
                      try clear hcz16_4
                      try clear hcz16_5
                      try clear hcz16_6
                      try clear hcz16_7
                      try clear hcz16_8
                      try clear hcz16_9
                      try clear hcz18_0
                      try clear hcz18_1
                      try clear hcz18_10
                      try clear hcz18_11
                      try clear hcz18_12
                      try clear hcz18_13
                      try clear hcz18_14
                      try clear hcz18_15
                      try clear hcz18_2
                      try clear hcz18_3
                      try clear hcz18_4
                      try clear hcz18_5
                      try clear hcz18_6
                      try clear hcz18_7
                      try clear hcz18_8
                      try clear hcz18_9
                      try clear hcz20_0
                      try clear hcz20_1
                      try clear hcz20_10
                      try clear hcz20_11
                      try clear hcz20_12
                      try clear hcz20_13
                      try clear hcz20_14
                      try clear hcz20_15
                      try clear hcz20_2
                      try clear hcz20_3
                      try clear hcz20_4
                      try clear hcz20_5
                      try clear hcz20_6
                      try clear hcz20_7
                      try clear hcz20_8
                      try clear hcz20_9
                      try clear hcz22_0
                      try clear hcz22_1
                      try clear hcz22_10
                      try clear hcz22_11
                      try clear hcz22_12
                      try clear hcz22_13
                      try clear hcz22_14
                      try clear hcz22_15
                      try clear hcz22_2
                      try clear hcz22_3
                      try clear hcz22_4
                      try clear hcz22_5
                      try clear hcz22_6
                      try clear hcz22_7
                      try clear hcz22_8
                      try clear hcz22_9
                      try clear hcz23_0
                      try clear hcz23_1
                      try clear hcz23_10
                      try clear hcz23_11
                      try clear hcz23_12
                      try clear hcz23_13
                      try clear hcz23_14
                      try clear hcz23_15
                      try clear hcz23_2
                      try clear hcz23_3
                      try clear hcz23_4
                      try clear hcz23_5
                      try clear hcz23_6
                      try clear hcz23_7
                      try clear hcz23_8
                      try clear hcz23_9
                      try clear hcz25_0
                      try clear hcz25_1
                      try clear hcz25_10
                      try clear hcz25_11
                      try clear hcz25_12
                      try clear hcz25_13
                      try clear hcz25_14
                      try clear hcz25_15
                      try clear hcz25_2
                      try clear hcz25_3
                      try clear hcz25_4
                      try clear hcz25_5
                      try clear hcz25_6
                      try clear hcz25_7
                      try clear hcz25_8
                      try clear hcz25_9
                      try clear hcz39_0
                      try clear hcz39_1
                      try clear hcz39_10
                      try clear hcz39_11
                      try clear hcz39_12
                      try clear hcz39_13
                      try clear hcz39_14
                      try clear hcz39_15
                      try clear hcz39_2
                      try clear hcz39_3
                      try clear hcz39_4
                      try clear hcz39_5
                      try clear hcz39_6
                      try clear hcz39_7
                      try clear hcz39_8
                      try clear hcz39_9
                      try clear hcz41_0
                      try clear hcz41_1
                      try clear hcz41_10
                      try clear hcz41_11
                      try clear hcz41_12
                      try clear hcz41_13
                      try clear hcz41_14
                      try clear hcz41_15
                      try clear hcz41_2
                      try clear hcz41_3
                      try clear hcz41_4
                      try clear hcz41_5
                      try clear hcz41_6
                      try clear hcz41_7
                      try clear hcz41_8
                      try clear hcz41_9
                      try clear hcz43_0
                      try clear hcz43_1
                      try clear hcz43_10
                      try clear hcz43_11
                      try clear hcz43_12
                      try clear hcz43_13
                      try clear hcz43_14
                      try clear hcz43_15
                      try clear hcz43_2
                      try clear hcz43_3
                      try clear hcz43_4
                      try clear hcz43_5
                      try clear hcz43_6
                      try clear hcz43_7
                      try clear hcz43_8
                      try clear hcz43_9
                      try clear hcz44_0
                      try clear hcz44_1
                      try clear hcz44_10
                      try clear hcz44_11
                      try clear hcz44_12
                      try clear hcz44_13
                      try clear hcz44_14
                      try clear hcz44_15
                      try clear hcz44_2
                      try clear hcz44_3
                      try clear hcz44_4
                      try clear hcz44_5
                      try clear hcz44_6
                      try clear hcz44_7
                      try clear hcz44_8
                      try clear hcz44_9
                      try clear hcz5_0
                      try clear hcz5_1
                      try clear hcz5_10
                      try clear hcz5_11
                      try clear hcz5_12
                      try clear hcz5_13
                      try clear hcz5_14
                      try clear hcz5_15
                      try clear hcz5_2
                      try clear hcz5_3
                      try clear hcz5_4
                      try clear hcz5_5
                      try clear hcz5_6
                      try clear hcz5_7
                      try clear hcz5_8
                      try clear hcz5_9
                      try clear hcz7_0
                      try clear hcz7_1
                      try clear hcz7_10
                      try clear hcz7_11
                      try clear hcz7_12
                      try clear hcz7_13
                      try clear hcz7_14
                      try clear hcz7_15
                      try clear hcz7_2
                      try clear hcz7_3
                      try clear hcz7_4
                      try clear hcz7_5
                      try clear hcz7_6
                      try clear hcz7_7
                      try clear hcz7_8
                      try clear hcz7_9
                      try clear hcz9_0
                      try clear hcz9_1
                      try clear hcz9_10
                      try clear hcz9_11
                      try clear hcz9_12
                      try clear hcz9_13
                      try clear hcz9_14
                      try clear hcz9_15
                      try clear hcz9_2
                      try clear hcz9_3
                      try clear hcz9_4
                      try clear hcz9_5
                      try clear hcz9_6
                      try clear hcz9_7
                      try clear hcz9_8
                      try clear hcz9_9
                      try clear hfz11_0
                      try clear hfz11_1
                      try clear hfz11_10
                      try clear hfz11_11
                      try clear hfz11_12
                      try clear hfz11_13
                      try clear hfz11_14
                      try clear hfz11_15
                      try clear hfz11_2
                      try clear hfz11_3
                      try clear hfz11_4
                      try clear hfz11_5
                      try clear hfz11_6
                      try clear hfz11_7
                      try clear hfz11_8
                      try clear hfz11_9
                      try clear hfz12_0
                      try clear hfz12_1
                      try clear hfz12_10
                      try clear hfz12_11
                      try clear hfz12_12
                      try clear hfz12_13
                      try clear hfz12_14
                      try clear hfz12_15
                      try clear hfz12_2
                      try clear hfz12_3
                      try clear hfz12_4
                      try clear hfz12_5
                      try clear hfz12_6
                      try clear hfz12_7
                      try clear hfz12_8
                      try clear hfz12_9
                      try clear hfz16_0
                      try clear hfz16_1
                      try clear hfz16_10
                      try clear hfz16_11
                      try clear hfz16_12
                      try clear hfz16_13
                      try clear hfz16_14
                      try clear hfz16_15
                      try clear hfz16_2
                      try clear hfz16_3
                      try clear hfz16_4
                      try clear hfz16_5
                      try clear hfz16_6
                      try clear hfz16_7
                      try clear hfz16_8
                      try clear hfz16_9
                      try clear hfz18_0
                      try clear hfz18_1
                      try clear hfz18_10
                      try clear hfz18_11
                      try clear hfz18_12
                      try clear hfz18_13
                      try clear hfz18_14
                      try clear hfz18_15
                      try clear hfz18_2
                      try clear hfz18_3
                      try clear hfz18_4
                      try clear hfz18_5
                      try clear hfz18_6
                      try clear hfz18_7
                      try clear hfz18_8
                      try clear hfz18_9
                      try clear hfz20_0
                      try clear hfz20_1
                      try clear hfz20_10
                      try clear hfz20_11
                      try clear hfz20_12
                      try clear hfz20_13
                      try clear hfz20_14
                      try clear hfz20_15
                      try clear hfz20_2
                      try clear hfz20_3
                      try clear hfz20_4
                      try clear hfz20_5
                      try clear hfz20_6
                      try clear hfz20_7
                      try clear hfz20_8
                      try clear hfz20_9
                      try clear hfz22_0
                      try clear hfz22_1
                      try clear hfz22_10
                      try clear hfz22_11
                      try clear hfz22_12
                      try clear hfz22_13
                      try clear hfz22_14
                      try clear hfz22_15
                      try clear hfz22_2
                      try clear hfz22_3
                      try clear hfz22_4
                      try clear hfz22_5
                      try clear hfz22_6
                      try clear hfz22_7
                      try clear hfz22_8
                      try clear hfz22_9
                      try clear hfz23_0
                      try clear hfz23_1
                      try clear hfz23_10
                      try clear hfz23_11
                      try clear hfz23_12
                      try clear hfz23_13
                      try clear hfz23_14
                      try clear hfz23_15
                      try clear hfz23_2
                      try clear hfz23_3
                      try clear hfz23_4
                      try clear hfz23_5
                      try clear hfz23_6
                      try clear hfz23_7
                      try clear hfz23_8
                      try clear hfz23_9
                      try clear hfz25_0
                      try clear hfz25_1
                      try clear hfz25_10
                      try clear hfz25_11
                      try clear hfz25_12
                      try clear hfz25_13
                      try clear hfz25_14
                      try clear hfz25_15
                      try clear hfz25_2
                      try clear hfz25_3
                      try clear hfz25_4
                      try clear hfz25_5
                      try clear hfz25_6
                      try clear hfz25_7
                      try clear hfz25_8
                      try clear hfz25_9
                      try clear hfz39_0
                      try clear hfz39_1
                      try clear hfz39_10
                      try clear hfz39_11
                      try clear hfz39_12
                      try clear hfz39_13
                      try clear hfz39_14
                      try clear hfz39_15
                      try clear hfz39_2
                      try clear hfz39_3
                      try clear hfz39_4
                      try clear hfz39_5
                      try clear hfz39_6
                      try clear hfz39_7
                      try clear hfz39_8
                      try clear hfz39_9
                      try clear hfz41_0
                      try clear hfz41_1
                      try clear hfz41_10
                      try clear hfz41_11
                      try clear hfz41_12
                      try clear hfz41_13
                      try clear hfz41_14
                      try clear hfz41_15
                      try clear hfz41_2
                      try clear hfz41_3
                      try clear hfz41_4
                      try clear hfz41_5
                      try clear hfz41_6
                      try clear hfz41_7
                      try clear hfz41_8
                      try clear hfz41_9
                      try clear hfz43_0
                      try clear hfz43_1
                      try clear hfz43_10
                      try clear hfz43_11
                      try clear hfz43_12
                      try clear hfz43_13
                      try clear hfz43_14
                      try clear hfz43_15
                      try clear hfz43_2
                      try clear hfz43_3
                      try clear hfz43_4
                      try clear hfz43_5
                      try clear hfz43_6
                      try clear hfz43_7
                      try clear hfz43_8
                      try clear hfz43_9
                      try clear hfz44_0
                      try clear hfz44_1
                      try clear hfz44_10
                      try clear hfz44_11
                      try clear hfz44_12
                      try clear hfz44_13
                      try clear hfz44_14
                      try clear hfz44_15
                      try clear hfz44_2
                      try clear hfz44_3
                      try clear hfz44_4
                      try clear hfz44_5
                      try clear hfz44_6
                      try clear hfz44_7
                      try clear hfz44_8
                      try clear hfz44_9
                      try clear hfz5_0
                      try clear hfz5_1
                      try clear hfz5_10
                      try clear hfz5_11
                      try clear hfz5_12
                      try clear hfz5_13
                      try clear hfz5_14
                      try clear hfz5_15
                      try clear hfz5_2
                      try clear hfz5_3
                      try clear hfz5_4
                      try clear hfz5_5
                      try clear hfz5_6
                      try clear hfz5_7
                      try clear hfz5_8
                      try clear hfz5_9
                      try clear hfz7_0
                      try clear hfz7_1
                      try clear hfz7_10
                      try clear hfz7_11
                      try clear hfz7_12
                      try clear hfz7_13
                      try clear hfz7_14
                      try clear hfz7_15
                      try clear hfz7_2
                      try clear hfz7_3
                      try clear hfz7_4
                      try clear hfz7_5
                      try clear hfz7_6
                      try clear hfz7_7
                      try clear hfz7_8
                      try clear hfz7_9
                      try clear hfz9_0
                      try clear hfz9_1
                      try clear hfz9_10
                      try clear hfz9_11
                      try clear hfz9_12
                      try clear hfz9_13
                      try clear hfz9_14
                      try clear hfz9_15
                      try clear hfz9_2
                      try clear hfz9_3
                      try clear hfz9_4
                      try clear hfz9_5
                      try clear hfz9_6
                      try clear hfz9_7
                      try clear hfz9_8
                      try clear hfz9_9
                      try clear hx186_0
                      try clear hx187_0
                      try clear p186
                      try clear p187
                      try clear p2
                      try clear p6
                      try clear q186
                      try clear q187
                      obtain ⟨kq, x115_35, rfl, HA, HJ35, BK182, HB⟩ := hcut
                      cases kq with
                      | zero => exact absurd HA.out (by simp [carouselref16_Check.j4])
                      | succ kj35 =>
                        have H := HA.out
                        clear HA
                        simp only [carouselref16_Check.j4] at H
                        by_cases c45 : x115_35 = true
                        · subst c45
                          have H1 : (some 4) = some r := by rw [if_pos rfl] at H; exact H
                          clear H
                          have H := H1
                          clear H1
                          obtain rfl := Option.some.inj H
                          go_wp2
                          go_ret
                          exact ⟨by first | rfl | (simp [errW_none, errW_some] <;> rfl) | (simp [*, errW_none, errW_some] <;> rfl), by repeat (first | (with_reducible first | exact HB.out | apply below_alloc | apply pw_below_drewN | apply below_drew1 | refine below_set ?_ GE182.out) | exact HB.out)⟩
                        · replace c45 := Bool.eq_false_iff.mpr c45
                          subst c45
                          have H1 : (some 0) = some r := by rw [if_neg (show ¬ (false = true) by decide)] at H; exact H
                          clear H
                          have H := H1
                          clear H1
                          obtain rfl := Option.some.inj H
                          go_wp2
                          go_ret
                          exact ⟨by first | rfl | (simp [errW_none, errW_some] <;> rfl) | (simp [*, errW_none, errW_some] <;> rfl), by repeat (first | (with_reducible first | exact HB.out | apply below_alloc | apply pw_below_drewN | apply below_drew1 | refine below_set ?_ GE182.out) | exact HB.out)⟩

end Go.Proofs.Ytmdaaphjndjakaf.PPlanChecks
