-- Written by a program of this work, after the translation.
import Derived.Test.YtapicoienpbdfaaPPlanTellsx0
namespace Go.Proofs.Ytapicoienpbdfaa.PPlanTells
open Go.RowKit Go.Proofs.YtapicoienpbdfaaW.PrintWords Go.Proofs.YtapicoienpbdfaaW.PrintLast Go.Proofs.YtapicoienpbdfaaW.PrintMore
attribute [local go_sem] max2_int min2_int max_two min_two max_three min_three max_four min_four   -- for this text's walks alone
set_option linter.unusedVariables false
set_option linter.unusedSimpArgs false

/-! ### carouselref16_Check: function 50 -/
mutual
def carouselref16_Check.j0 : Nat → Bool → Int → Int → Int → Int → Int → Int → Int → Int → Int → Int → Int → Int → Int → Int → Int → Bool → Option (Int)
  | 0, _, _, _, _, _, _, _, _, _, _, _, _, _, _, _, _, _ => none
  | k + 1, x31, x116000, x116001, x116002, x116003, x116004, x116005, x116006, x116007, x116008, x116009, x116010, x116011, x116012, x116013, x116014, x116015 => if x31 = true then (some 4) else (if x116003 = 0 then (carouselref16_Check.j1 k true x116000 x116001 x116002 x116003 x116004 x116005 x116006 x116007 x116008 x116009 x116010 x116011 x116012 x116013 x116014 x116015) else (if x116003 > 4094 then (carouselref16_Check.j1 k true x116000 x116001 x116002 x116003 x116004 x116005 x116006 x116007 x116008 x116009 x116010 x116011 x116012 x116013 x116014 x116015) else (if x116004 = 0 then (carouselref16_Check.j1 k true x116000 x116001 x116002 x116003 x116004 x116005 x116006 x116007 x116008 x116009 x116010 x116011 x116012 x116013 x116014 x116015) else (if x116004 > 4094 then (carouselref16_Check.j1 k true x116000 x116001 x116002 x116003 x116004 x116005 x116006 x116007 x116008 x116009 x116010 x116011 x116012 x116013 x116014 x116015) else (carouselref16_Check.j1 k (x116003 == x116004) x116000 x116001 x116002 x116003 x116004 x116005 x116006 x116007 x116008 x116009 x116010 x116011 x116012 x116013 x116014 x116015)))))
def carouselref16_Check.j1 : Nat → Bool → Int → Int → Int → Int → Int → Int → Int → Int → Int → Int → Int → Int → Int → Int → Int → Bool → Option (Int)
  | 0, _, _, _, _, _, _, _, _, _, _, _, _, _, _, _, _, _ => none
  | k + 1, x56, x116000, x116001, x116002, x116003, x116004, x116005, x116006, x116007, x116008, x116009, x116010, x116011, x116012, x116013, x116014, x116015 => if x56 = true then (some 5) else (carouselref16_Check.l0 k (([x116005, x116007, x116008, x116009, x116010, x116011, x116012, wrap64 (x116006 + 1)] : List Int)) 0 x116000 x116001 x116002 x116003 x116004 x116005 x116006 x116007 x116008 x116009 x116010 x116011 x116012 x116013 x116014 x116015)
def carouselref16_Check.l0 : Nat → List Int → Int → Int → Int → Int → Int → Int → Int → Int → Int → Int → Int → Int → Int → Int → Int → Int → Bool → Option (Int)
  | 0, _, _, _, _, _, _, _, _, _, _, _, _, _, _, _, _, _, _ => none
  | k + 1, x3, x4, x116000, x116001, x116002, x116003, x116004, x116005, x116006, x116007, x116008, x116009, x116010, x116011, x116012, x116013, x116014, x116015 => if x4 < (x3.length : Int) then (if x4 = 7 then (carouselref16_Check.j3 k x3 x4 (1048576 + 1) x116000 x116001 x116002 x116003 x116004 x116005 x116006 x116007 x116008 x116009 x116010 x116011 x116012 x116013 x116014 x116015) else (carouselref16_Check.j3 k x3 x4 1048576 x116000 x116001 x116002 x116003 x116004 x116005 x116006 x116007 x116008 x116009 x116010 x116011 x116012 x116013 x116014 x116015)) else (if x116013 < 1 then (carouselref16_Check.j4 k true) else (if x116013 > 1024 then (carouselref16_Check.j4 k true) else (if x116014 < 1 then (carouselref16_Check.j4 k true) else (carouselref16_Check.j4 k (decide (x116014 > 256))))))
def carouselref16_Check.j3 : Nat → List Int → Int → Int → Int → Int → Int → Int → Int → Int → Int → Int → Int → Int → Int → Int → Int → Int → Int → Bool → Option (Int)
  | 0, _, _, _, _, _, _, _, _, _, _, _, _, _, _, _, _, _, _, _ => none
  | k + 1, x3, x4, x5, x116000, x116001, x116002, x116003, x116004, x116005, x116006, x116007, x116008, x116009, x116010, x116011, x116012, x116013, x116014, x116015 => if 0 ≤ x4 then (if x4 < (x3.length : Int) then (if (rd x3 x4) < 1 then (some 4) else (if (rd x3 x4) > x5 then (some 4) else (carouselref16_Check.l0 k x3 (wrap64 (x4 + 1)) x116000 x116001 x116002 x116003 x116004 x116005 x116006 x116007 x116008 x116009 x116010 x116011 x116012 x116013 x116014 x116015))) else (none)) else (none)
def carouselref16_Check.j4 : Nat → Bool → Option (Int)
  | 0, _ => none
  | k + 1, x115 => if x115 = true then (some 4) else (some 0)
end
def carouselref16_Check.f (k : Nat) (a0_0 : Int) (a0_1 : Int) (a0_2 : Int) (a0_3 : Int) (a0_4 : Int) (a0_5 : Int) (a0_6 : Int) (a0_7 : Int) (a0_8 : Int) (a0_9 : Int) (a0_10 : Int) (a0_11 : Int) (a0_12 : Int) (a0_13 : Int) (a0_14 : Int) (a0_15 : Bool) : Option (Int) := if a0_0 < 3 then (carouselref16_Check.j0 k true a0_0 a0_1 a0_2 a0_3 a0_4 a0_5 a0_6 a0_7 a0_8 a0_9 a0_10 a0_11 a0_12 a0_13 a0_14 a0_15) else (if a0_0 > 16 then (carouselref16_Check.j0 k true a0_0 a0_1 a0_2 a0_3 a0_4 a0_5 a0_6 a0_7 a0_8 a0_9 a0_10 a0_11 a0_12 a0_13 a0_14 a0_15) else (if a0_1 < 0 then (carouselref16_Check.j0 k true a0_0 a0_1 a0_2 a0_3 a0_4 a0_5 a0_6 a0_7 a0_8 a0_9 a0_10 a0_11 a0_12 a0_13 a0_14 a0_15) else (if a0_1 > (wrap64 (a0_0 - 1)) then (carouselref16_Check.j0 k true a0_0 a0_1 a0_2 a0_3 a0_4 a0_5 a0_6 a0_7 a0_8 a0_9 a0_10 a0_11 a0_12 a0_13 a0_14 a0_15) else (carouselref16_Check.j0 k (decide (a0_2 > 7)) a0_0 a0_1 a0_2 a0_3 a0_4 a0_5 a0_6 a0_7 a0_8 a0_9 a0_10 a0_11 a0_12 a0_13 a0_14 a0_15))))
theorem carouselref16_Check.mono_l : ∀ k, (∀ y0 y1 y2 y3 y4 y5 y6 y7 y8 y9 y10 y11 y12 y13 y14 y15 y16, LeO (carouselref16_Check.j0 k y0 y1 y2 y3 y4 y5 y6 y7 y8 y9 y10 y11 y12 y13 y14 y15 y16) (carouselref16_Check.j0 (k + 1) y0 y1 y2 y3 y4 y5 y6 y7 y8 y9 y10 y11 y12 y13 y14 y15 y16)) ∧ (∀ y0 y1 y2 y3 y4 y5 y6 y7 y8 y9 y10 y11 y12 y13 y14 y15 y16, LeO (carouselref16_Check.j1 k y0 y1 y2 y3 y4 y5 y6 y7 y8 y9 y10 y11 y12 y13 y14 y15 y16) (carouselref16_Check.j1 (k + 1) y0 y1 y2 y3 y4 y5 y6 y7 y8 y9 y10 y11 y12 y13 y14 y15 y16)) ∧ (∀ y0 y1 y2 y3 y4 y5 y6 y7 y8 y9 y10 y11 y12 y13 y14 y15 y16 y17, LeO (carouselref16_Check.l0 k y0 y1 y2 y3 y4 y5 y6 y7 y8 y9 y10 y11 y12 y13 y14 y15 y16 y17) (carouselref16_Check.l0 (k + 1) y0 y1 y2 y3 y4 y5 y6 y7 y8 y9 y10 y11 y12 y13 y14 y15 y16 y17)) ∧ (∀ y0 y1 y2 y3 y4 y5 y6 y7 y8 y9 y10 y11 y12 y13 y14 y15 y16 y17 y18, LeO (carouselref16_Check.j3 k y0 y1 y2 y3 y4 y5 y6 y7 y8 y9 y10 y11 y12 y13 y14 y15 y16 y17 y18) (carouselref16_Check.j3 (k + 1) y0 y1 y2 y3 y4 y5 y6 y7 y8 y9 y10 y11 y12 y13 y14 y15 y16 y17 y18)) ∧ (∀ y0, LeO (carouselref16_Check.j4 k y0) (carouselref16_Check.j4 (k + 1) y0))
 | 0 => ⟨fun _ _ _ _ _ _ _ _ _ _ _ _ _ _ _ _ _ r h => by simp [carouselref16_Check.j0] at h, fun _ _ _ _ _ _ _ _ _ _ _ _ _ _ _ _ _ r h => by simp [carouselref16_Check.j1] at h, fun _ _ _ _ _ _ _ _ _ _ _ _ _ _ _ _ _ _ r h => by simp [carouselref16_Check.l0] at h, fun _ _ _ _ _ _ _ _ _ _ _ _ _ _ _ _ _ _ _ r h => by simp [carouselref16_Check.j3] at h, fun _ r h => by simp [carouselref16_Check.j4] at h⟩
 | k + 1 => by
  obtain ⟨ih0, ih1, ih2, ih3, ih4⟩ := carouselref16_Check.mono_l k
  refine ⟨?_, ?_, ?_, ?_, ?_⟩
  ·
   intro y0 y1 y2 y3 y4 y5 y6 y7 y8 y9 y10 y11 y12 y13 y14 y15 y16
   unfold carouselref16_Check.j0
   repeat' first
   | (with_reducible exact ih0 _ _ _ _ _ _ _ _ _ _ _ _ _ _ _ _ _)
   | (with_reducible exact ih1 _ _ _ _ _ _ _ _ _ _ _ _ _ _ _ _ _)
   | (with_reducible exact ih2 _ _ _ _ _ _ _ _ _ _ _ _ _ _ _ _ _ _)
   | (with_reducible exact ih3 _ _ _ _ _ _ _ _ _ _ _ _ _ _ _ _ _ _ _)
   | (with_reducible exact ih4 _)
   | (with_reducible exact LeO.refl _)
   | (with_reducible exact LeO.none _)
   | (with_reducible refine LeO.ite ?_ ?_)
   | (with_reducible refine LeO.bind ?_ (fun _ => ?_))
   | exact ih0 _ _ _ _ _ _ _ _ _ _ _ _ _ _ _ _ _
   | exact ih1 _ _ _ _ _ _ _ _ _ _ _ _ _ _ _ _ _
   | exact ih2 _ _ _ _ _ _ _ _ _ _ _ _ _ _ _ _ _ _
   | exact ih3 _ _ _ _ _ _ _ _ _ _ _ _ _ _ _ _ _ _ _
   | exact ih4 _
   | exact LeO.none _
   | refine LeO.ite ?_ ?_
   | refine LeO.bind ?_ (fun _ => ?_)
  ·
   intro y0 y1 y2 y3 y4 y5 y6 y7 y8 y9 y10 y11 y12 y13 y14 y15 y16
   unfold carouselref16_Check.j1
   repeat' first
   | (with_reducible exact ih0 _ _ _ _ _ _ _ _ _ _ _ _ _ _ _ _ _)
   | (with_reducible exact ih1 _ _ _ _ _ _ _ _ _ _ _ _ _ _ _ _ _)
   | (with_reducible exact ih2 _ _ _ _ _ _ _ _ _ _ _ _ _ _ _ _ _ _)
   | (with_reducible exact ih3 _ _ _ _ _ _ _ _ _ _ _ _ _ _ _ _ _ _ _)
   | (with_reducible exact ih4 _)
   | (with_reducible exact LeO.refl _)
   | (with_reducible exact LeO.none _)
   | (with_reducible refine LeO.ite ?_ ?_)
   | (with_reducible refine LeO.bind ?_ (fun _ => ?_))
   | exact ih0 _ _ _ _ _ _ _ _ _ _ _ _ _ _ _ _ _
   | exact ih1 _ _ _ _ _ _ _ _ _ _ _ _ _ _ _ _ _
   | exact ih2 _ _ _ _ _ _ _ _ _ _ _ _ _ _ _ _ _ _
   | exact ih3 _ _ _ _ _ _ _ _ _ _ _ _ _ _ _ _ _ _ _
   | exact ih4 _
   | exact LeO.none _
   | refine LeO.ite ?_ ?_
   | refine LeO.bind ?_ (fun _ => ?_)
  ·
   intro y0 y1 y2 y3 y4 y5 y6 y7 y8 y9 y10 y11 y12 y13 y14 y15 y16 y17
   unfold carouselref16_Check.l0
   repeat' first
   | (with_reducible exact ih0 _ _ _ _ _ _ _ _ _ _ _ _ _ _ _ _ _)
   | (with_reducible exact ih1 _ _ _ _ _ _ _ _ _ _ _ _ _ _ _ _ _)
   | (with_reducible exact ih2 _ _ _ _ _ _ _ _ _ _ _ _ _ _ _ _ _ _)
   | (with_reducible exact ih3 _ _ _ _ _ _ _ _ _ _ _ _ _ _ _ _ _ _ _)
   | (with_reducible exact ih4 _)
   | (with_reducible exact LeO.refl _)
   | (with_reducible exact LeO.none _)
   | (with_reducible refine LeO.ite ?_ ?_)
   | (with_reducible refine LeO.bind ?_ (fun _ => ?_))
   | exact ih0 _ _ _ _ _ _ _ _ _ _ _ _ _ _ _ _ _
   | exact ih1 _ _ _ _ _ _ _ _ _ _ _ _ _ _ _ _ _
   | exact ih2 _ _ _ _ _ _ _ _ _ _ _ _ _ _ _ _ _ _
   | exact ih3 _ _ _ _ _ _ _ _ _ _ _ _ _ _ _ _ _ _ _
   | exact ih4 _
   | exact LeO.none _
   | refine LeO.ite ?_ ?_
   | refine LeO.bind ?_ (fun _ => ?_)
  ·
   intro y0 y1 y2 y3 y4 y5 y6 y7 y8 y9 y10 y11 y12 y13 y14 y15 y16 y17 y18
   unfold carouselref16_Check.j3
   repeat' first
   | (with_reducible exact ih0 _ _ _ _ _ _ _ _ _ _ _ _ _ _ _ _ _)
   | (with_reducible exact ih1 _ _ _ _ _ _ _ _ _ _ _ _ _ _ _ _ _)
   | (with_reducible exact ih2 _ _ _ _ _ _ _ _ _ _ _ _ _ _ _ _ _ _)
   | (with_reducible exact ih3 _ _ _ _ _ _ _ _ _ _ _ _ _ _ _ _ _ _ _)
   | (with_reducible exact ih4 _)
   | (with_reducible exact LeO.refl _)
   | (with_reducible exact LeO.none _)
   | (with_reducible refine LeO.ite ?_ ?_)
   | (with_reducible refine LeO.bind ?_ (fun _ => ?_))
   | exact ih0 _ _ _ _ _ _ _ _ _ _ _ _ _ _ _ _ _
   | exact ih1 _ _ _ _ _ _ _ _ _ _ _ _ _ _ _ _ _
   | exact ih2 _ _ _ _ _ _ _ _ _ _ _ _ _ _ _ _ _ _
   | exact ih3 _ _ _ _ _ _ _ _ _ _ _ _ _ _ _ _ _ _ _
   | exact ih4 _
   | exact LeO.none _
   | refine LeO.ite ?_ ?_
   | refine LeO.bind ?_ (fun _ => ?_)
  intro y0
  unfold carouselref16_Check.j4
  repeat' first
  | (with_reducible exact ih0 _ _ _ _ _ _ _ _ _ _ _ _ _ _ _ _ _)
  | (with_reducible exact ih1 _ _ _ _ _ _ _ _ _ _ _ _ _ _ _ _ _)
  | (with_reducible exact ih2 _ _ _ _ _ _ _ _ _ _ _ _ _ _ _ _ _ _)
  | (with_reducible exact ih3 _ _ _ _ _ _ _ _ _ _ _ _ _ _ _ _ _ _ _)
  | (with_reducible exact ih4 _)
  | (with_reducible exact LeO.refl _)
  | (with_reducible exact LeO.none _)
  | (with_reducible refine LeO.ite ?_ ?_)
  | (with_reducible refine LeO.bind ?_ (fun _ => ?_))
  | exact ih0 _ _ _ _ _ _ _ _ _ _ _ _ _ _ _ _ _
  | exact ih1 _ _ _ _ _ _ _ _ _ _ _ _ _ _ _ _ _
  | exact ih2 _ _ _ _ _ _ _ _ _ _ _ _ _ _ _ _ _ _
  | exact ih3 _ _ _ _ _ _ _ _ _ _ _ _ _ _ _ _ _ _ _
  | exact ih4 _
  | exact LeO.none _
  | refine LeO.ite ?_ ?_
  | refine LeO.bind ?_ (fun _ => ?_)
theorem carouselref16_Check.mono : ∀ a0 a1 a2 a3 a4 a5 a6 a7 a8 a9 a10 a11 a12 a13 a14 a15 k, LeO (carouselref16_Check.f k a0 a1 a2 a3 a4 a5 a6 a7 a8 a9 a10 a11 a12 a13 a14 a15) (carouselref16_Check.f (k + 1) a0 a1 a2 a3 a4 a5 a6 a7 a8 a9 a10 a11 a12 a13 a14 a15) := by
 intro a0 a1 a2 a3 a4 a5 a6 a7 a8 a9 a10 a11 a12 a13 a14 a15 k;obtain ⟨ih0,ih1,ih2,ih3,ih4⟩:=carouselref16_Check.mono_l k;unfold carouselref16_Check.f
 repeat' first
  | (with_reducible exact ih0 _ _ _ _ _ _ _ _ _ _ _ _ _ _ _ _ _)
  | (with_reducible exact ih1 _ _ _ _ _ _ _ _ _ _ _ _ _ _ _ _ _)
  | (with_reducible exact ih2 _ _ _ _ _ _ _ _ _ _ _ _ _ _ _ _ _ _)
  | (with_reducible exact ih3 _ _ _ _ _ _ _ _ _ _ _ _ _ _ _ _ _ _ _)
  | (with_reducible exact ih4 _)
  | (with_reducible exact LeO.refl _)
  | (with_reducible exact LeO.none _)
  | (with_reducible refine LeO.ite ?_ ?_)
  | (with_reducible refine LeO.bind ?_ (fun _ => ?_))
  | exact ih0 _ _ _ _ _ _ _ _ _ _ _ _ _ _ _ _ _
  | exact ih1 _ _ _ _ _ _ _ _ _ _ _ _ _ _ _ _ _
  | exact ih2 _ _ _ _ _ _ _ _ _ _ _ _ _ _ _ _ _ _
  | exact ih3 _ _ _ _ _ _ _ _ _ _ _ _ _ _ _ _ _ _ _
  | exact ih4 _
  | exact LeO.none _
  | refine LeO.ite ?_ ?_
  | refine LeO.bind ?_ (fun _ => ?_)
set_option maxHeartbeats 8000000 in
set_option maxRecDepth 100000 in
theorem carouselref16_Check.calls (k : Nat) (a0_0 : Int) (a0_1 : Int) (a0_2 : Int) (a0_3 : Int) (a0_4 : Int) (a0_5 : Int) (a0_6 : Int) (a0_7 : Int) (a0_8 : Int) (a0_9 : Int) (a0_10 : Int) (a0_11 : Int) (a0_12 : Int) (a0_13 : Int) (a0_14 : Int) (a0_15 : Bool) (r : Int) (w : World) (h : carouselref16_Check.f k a0_0 a0_1 a0_2 a0_3 a0_4 a0_5 a0_6 a0_7 a0_8 a0_9 a0_10 a0_11 a0_12 a0_13 a0_14 a0_15 = some r) :
  Calls Try.prog 50 #[.agg #[.int .i64 a0_0, .int .i64 a0_1, .int .u8 a0_2, .int .u16 a0_3, .int .u16 a0_4, .int .i64 a0_5, .int .i64 a0_6, .int .i64 a0_7, .int .i64 a0_8, .int .i64 a0_9, .int .i64 a0_10, .int .i64 a0_11, .int .i64 a0_12, .int .i64 a0_13, .int .i64 a0_14, .bool a0_15]] w fun e w' => e = .returned (.int .i64 r) ∧ Below w.heap.size w w' := by
 have hu25:=Try.underlying25;have HB:=zM (Below.refl w.heap.size w);have H : (if a0_0 < 3 then (carouselref16_Check.j0 k true a0_0 a0_1 a0_2 a0_3 a0_4 a0_5 a0_6 a0_7 a0_8 a0_9 a0_10 a0_11 a0_12 a0_13 a0_14 a0_15) else (if a0_0 > 16 then (carouselref16_Check.j0 k true a0_0 a0_1 a0_2 a0_3 a0_4 a0_5 a0_6 a0_7 a0_8 a0_9 a0_10 a0_11 a0_12 a0_13 a0_14 a0_15) else (if a0_1 < 0 then (carouselref16_Check.j0 k true a0_0 a0_1 a0_2 a0_3 a0_4 a0_5 a0_6 a0_7 a0_8 a0_9 a0_10 a0_11 a0_12 a0_13 a0_14 a0_15) else (if a0_1 > (wrap64 (a0_0 - 1)) then (carouselref16_Check.j0 k true a0_0 a0_1 a0_2 a0_3 a0_4 a0_5 a0_6 a0_7 a0_8 a0_9 a0_10 a0_11 a0_12 a0_13 a0_14 a0_15) else (carouselref16_Check.j0 k (decide (a0_2 > 7)) a0_0 a0_1 a0_2 a0_3 a0_4 a0_5 a0_6 a0_7 a0_8 a0_9 a0_10 a0_11 a0_12 a0_13 a0_14 a0_15))))) = some r:=h;clear h;have HC2:=zM H;clear H;go_enter Try.func50,Try.ntmps50
 go_upto_region 1 with (first|((with_reducible refine gate_dst (N:=1) rfl ?_);refine box_event ?hg (N:=1) ?hd (cs:=#[.int .i64 a0_0,.int .i64 a0_1,.int .u8 a0_2,.int .u16 a0_3,.int .u16 a0_4,.int .i64 a0_5,.int .i64 a0_6,.int .i64 a0_7,.int .i64 a0_8,.int .i64 a0_9,.int .i64 a0_10,.int .i64 a0_11,.int .i64 a0_12,.int .i64 a0_13,.int .i64 a0_14,.bool a0_15]) (t:=25) ?hr ?_;(case hd => rfl);(case hg => rfl);(case hr => first|(go_simp;done)|(go_simp;rfl));intro z7n hg w3 hbox hb;have n0_:=zM (yT (by repeat first|(with_reducible first|exact HB.out|apply yA|apply yN|apply yD)|exact HB.out) hb);have n1_:=zM (hbox);have n2_:=zM ((by rw [hg];exact (yZ (by repeat first|(with_reducible first|exact HB.out|apply yA|apply yN|apply yD)|exact HB.out)) : w.heap.size ≤ z7n));have n3_:=zM ((by rw [hg];exact (yZ (by repeat first|(with_reducible first|exact HB.out|apply yA|apply yN|apply yD)|exact HB.out)) : w.heap.size ≤ z7n));clear HB;have HB:=n0_;have z00:=n1_;have zdm:=n2_;have z01:=n3_;clear n0_ n1_ n2_ n3_;clear hb hbox hg))
 (try simp only [Act.put,sA,sB,sC])
 go_cut [31] (fun v31 wc => ∃ (kq : Nat) (x31_1 : Bool),v31 = .bool x31_1 ∧ Aside0 (carouselref16_Check.j0 kq x31_1 a0_0 a0_1 a0_2 a0_3 a0_4 a0_5 a0_6 a0_7 a0_8 a0_9 a0_10 a0_11 a0_12 a0_13 a0_14 a0_15 = some r) ∧ Aside0 (kq ≤ k) ∧ Aside0 (wc.heap[z7n]? = some (.cells #[.int .i64 a0_0,.int .i64 a0_1,.int .u8 a0_2,.int .u16 a0_3,.int .u16 a0_4,.int .i64 a0_5,.int .i64 a0_6,.int .i64 a0_7,.int .i64 a0_8,.int .i64 a0_9,.int .i64 a0_10,.int .i64 a0_11,.int .i64 a0_12,.int .i64 a0_13,.int .i64 a0_14,.bool a0_15] 25 (0,0))) ∧ Aside0 (Below w.heap.size w wc))
 case first =>
  have H:=HC2.out;clear HC2;by_cases c4 : a0_0 < 3
  ·
   rw [if_pos c4] at H;have c4b0 : decide (a0_0 < 3) = true:=dT c4;clear c4;(first|rw [c4b0]|(simp only [i64_w,i32_w];rw [c4b0])|skip)
   have H':=zM H;clear H;obtain ⟨z7o,z7p,z7q,z7r,z7s,z7t,z7u,z7v,z7w,z7x,z2e,z2f,z2g,z2h,z2i,z2j,z7y,z7z,z80,z81,z82,z83,z84,z85,z86,z87,z2k,z2l,z2m,z2n,z2o,z2p⟩:=kc16 z00.out;go_wp2;go_meet
   case rel => exact ⟨_,(true),(by first|rfl|(simp;done)|(simp [*];done)),H',⟨by first|omega|exact Nat.le_refl _⟩,⟨by (with_reducible repeat first|apply zN|apply zD|apply zA);exact z00.out⟩,⟨by repeat first|(with_reducible first|exact HB.out|apply yA|apply yN|apply yD|refine yS ?_ z01.out)|exact HB.out⟩⟩
  rw [if_neg c4] at H;have c4b0 : decide (a0_0 < 3) = false:=dF c4;clear c4;(first|rw [c4b0]|(simp only [i64_w,i32_w];rw [c4b0])|skip)
  by_cases c6 : a0_0 > 16
  ·
   rw [if_pos c6] at H;have c6b0 : decide (16 < a0_0) = true:=dT c6;clear c6;have H':=zM H;clear H;obtain ⟨z88,z89,z8a,z8b,z8c,z8d,z8e,z8f,z8g,z8h,z2q,z2r,z2s,z2t,z2u,z2v,z8i,z8j,z8k,z8l,z8m,z8n,z8o,z8p,z8q,z8r,z2w,z2x,z2y,z2z,z30,z31⟩:=kc16 z00.out;go_wp2;go_meet
   case rel => exact ⟨_,(true),(by first|rfl|(simp;done)|(simp [*];done)),H',⟨by first|omega|exact Nat.le_refl _⟩,⟨by (with_reducible repeat first|apply zN|apply zD|apply zA);exact z00.out⟩,⟨by repeat first|(with_reducible first|exact HB.out|apply yA|apply yN|apply yD|refine yS ?_ z01.out)|exact HB.out⟩⟩
  rw [if_neg c6] at H;have c6b0 : decide (16 < a0_0) = false:=dF c6;clear c6;by_cases c8 : a0_1 < 0
  ·
   rw [if_pos c8] at H;have c8b0 : decide (a0_1 < 0) = true:=dT c8;clear c8;have H':=zM H;clear H;obtain ⟨z8s,z8t,z8u,z8v,z8w,z8x,z8y,z8z,z90,z91,z32,z33,z34,z35,z36,z37,z92,z93,z94,z95,z96,z97,z98,z99,z9a,z9b,z38,z39,z3a,z3b,z3c,z3d⟩:=kc16 z00.out;go_wp2;go_meet
   case rel => exact ⟨_,(true),(by first|rfl|(simp;done)|(simp [*];done)),H',⟨by first|omega|exact Nat.le_refl _⟩,⟨by (with_reducible repeat first|apply zN|apply zD|apply zA);exact z00.out⟩,⟨by repeat first|(with_reducible first|exact HB.out|apply yA|apply yN|apply yD|refine yS ?_ z01.out)|exact HB.out⟩⟩
  rw [if_neg c8] at H;have c8b0 : decide (a0_1 < 0) = false:=dF c8;clear c8;by_cases c10 : a0_1 > (wrap64 (a0_0 - 1))
  ·
   rw [if_pos c10] at H;have c10b0 : decide ((wrap64 (a0_0 - 1)) < a0_1) = true:=dT c10;clear c10;have H':=zM H;clear H;obtain ⟨z48,z49,z4a,z4b,z4c,z4d,z4e,z4f,z4g,z4h,z0k,z0l,z0m,z0n,z0o,z0p,z3e,z3f,z3g,z3h,z3i,z3j,z3k,z3l,z3m,z3n,z02,z03,z04,z05,z06,z07⟩:=kc16 z00.out;go_wp2;go_meet
   case rel => exact ⟨_,(true),(by first|rfl|(simp;done)|(simp [*];done)),H',⟨by first|omega|exact Nat.le_refl _⟩,⟨by (with_reducible repeat first|apply zN|apply zD|apply zA);exact z00.out⟩,⟨by repeat first|(with_reducible first|exact HB.out|apply yA|apply yN|apply yD|refine yS ?_ z01.out)|exact HB.out⟩⟩
  rw [if_neg c10] at H;have c10b0 : decide ((wrap64 (a0_0 - 1)) < a0_1) = false:=dF c10;clear c10;have H':=zM H;clear H;obtain ⟨z3o,z3p,z3q,z3r,z3s,z3t,z3u,z3v,z3w,z3x,z08,z09,z0a,z0b,z0c,z0d,z3y,z3z,z40,z41,z42,z43,z44,z45,z46,z47,z0e,z0f,z0g,z0h,z0i,z0j⟩:=kc16 z00.out;go_wp2;go_meet
  case rel => exact ⟨_,(decide (a0_2 > 7)),(by first|rfl|(simp;done)|(simp [*];done)),H',⟨by first|omega|exact Nat.le_refl _⟩,⟨by (with_reducible repeat first|apply zN|apply zD|apply zA);exact z00.out⟩,⟨by repeat first|(with_reducible first|exact HB.out|apply yA|apply yN|apply yD|refine yS ?_ z01.out)|exact HB.out⟩⟩
 case rest =>
  clear HC2;try clear c1
  try clear p2
  try clear c4
  try clear c4b0
  try clear c5
  try clear c6
  try clear c6b0
  try clear p6
  try clear c8
  try clear c8b0
  try clear c10
  try clear c10b0
  try clear z48
  try clear z49
  try clear z0k
  try clear z0l
  try clear z0m
  try clear z0n
  try clear z0o
  try clear z0p
  try clear z4a
  try clear z4b
  try clear z4c
  try clear z4d
  try clear z4e
  try clear z4f
  try clear z4g
  try clear z4h
  try clear z3o
  try clear z3p
  try clear z08
  try clear z09
  try clear z0a
  try clear z0b
  try clear z0c
  try clear z0d
  try clear z3q
  try clear z3r
  try clear z3s
  try clear z3t
  try clear z3u
  try clear z3v
  try clear z3w
  try clear z3x
  try clear z7o
  try clear z7p
  try clear z2e
  try clear z2f
  try clear z2g
  try clear z2h
  try clear z2i
  try clear z2j
  try clear z7q
  try clear z7r
  try clear z7s
  try clear z7t
  try clear z7u
  try clear z7v
  try clear z7w
  try clear z7x
  try clear z88
  try clear z89
  try clear z2q
  try clear z2r
  try clear z2s
  try clear z2t
  try clear z2u
  try clear z2v
  try clear z8a
  try clear z8b
  try clear z8c
  try clear z8d
  try clear z8e
  try clear z8f
  try clear z8g
  try clear z8h
  try clear z8s
  try clear z8t
  try clear z32
  try clear z33
  try clear z34
  try clear z35
  try clear z36
  try clear z37
  try clear z8u
  try clear z8v
  try clear z8w
  try clear z8x
  try clear z8y
  try clear z8z
  try clear z90
  try clear z91
  try clear z3e
  try clear z3f
  try clear z02
  try clear z03
  try clear z04
  try clear z05
  try clear z06
  try clear z07
  try clear z3g
  try clear z3h
  try clear z3i
  try clear z3j
  try clear z3k
  try clear z3l
  try clear z3m
  try clear z3n
  try clear z3y
  try clear z3z
  try clear z0e
  try clear z0f
  try clear z0g
  try clear z0h
  try clear z0i
  try clear z0j
  try clear z40
  try clear z41
  try clear z42
  try clear z43
  try clear z44
  try clear z45
  try clear z46
  try clear z47
  try clear z7y
  try clear z7z
  try clear z2k
  try clear z2l
  try clear z2m
  try clear z2n
  try clear z2o
  try clear z2p
  try clear z80
  try clear z81
  try clear z82
  try clear z83
  try clear z84
  try clear z85
  try clear z86
  try clear z87
  try clear z8i
  try clear z8j
  try clear z2w
  try clear z2x
  try clear z2y
  try clear z2z
  try clear z30
  try clear z31
  try clear z8k
  try clear z8l
  try clear z8m
  try clear z8n
  try clear z8o
  try clear z8p
  try clear z8q
  try clear z8r
  try clear z92
  try clear z93
  try clear z38
  try clear z39
  try clear z3a
  try clear z3b
  try clear z3c
  try clear z3d
  try clear z94
  try clear z95
  try clear z96
  try clear z97
  try clear z98
  try clear z99
  try clear z9a
  try clear z9b
  obtain ⟨kq,x31_1,rfl,HA,HJ1,z00,HB⟩:=hcut;cases kq with
 | zero => exact absurd HA.out (by simp [carouselref16_Check.j0])
 | succ kj1 =>
   have H:=HA.out;clear HA;simp only [carouselref16_Check.j0] at H;by_cases c13 : x31_1 = true
   ·
    subst c13;have H1 : (some 4) = some r:=by rw [if_pos rfl] at H;exact H
    clear H;have H:=H1;clear H1;obtain rfl:=Option.some.inj H;go_wp2;go_ret;exact ⟨by first|rfl|(simp [errW_none,errW_some] <;> rfl)|(simp [*,errW_none,errW_some] <;> rfl),by repeat first|(with_reducible first|exact HB.out|apply yA|apply yN|apply yD|refine yS ?_ z01.out)|exact HB.out⟩
   replace c13:=Bool.eq_false_iff.mpr c13;subst c13;have H1 : (if a0_3 = 0 then (carouselref16_Check.j1 kj1 true a0_0 a0_1 a0_2 a0_3 a0_4 a0_5 a0_6 a0_7 a0_8 a0_9 a0_10 a0_11 a0_12 a0_13 a0_14 a0_15) else (if a0_3 > 4094 then (carouselref16_Check.j1 kj1 true a0_0 a0_1 a0_2 a0_3 a0_4 a0_5 a0_6 a0_7 a0_8 a0_9 a0_10 a0_11 a0_12 a0_13 a0_14 a0_15) else (if a0_4 = 0 then (carouselref16_Check.j1 kj1 true a0_0 a0_1 a0_2 a0_3 a0_4 a0_5 a0_6 a0_7 a0_8 a0_9 a0_10 a0_11 a0_12 a0_13 a0_14 a0_15) else (if a0_4 > 4094 then (carouselref16_Check.j1 kj1 true a0_0 a0_1 a0_2 a0_3 a0_4 a0_5 a0_6 a0_7 a0_8 a0_9 a0_10 a0_11 a0_12 a0_13 a0_14 a0_15) else (carouselref16_Check.j1 kj1 (a0_3 == a0_4) a0_0 a0_1 a0_2 a0_3 a0_4 a0_5 a0_6 a0_7 a0_8 a0_9 a0_10 a0_11 a0_12 a0_13 a0_14 a0_15))))) = some r:=by rw [if_neg (show ¬ (false = true) by decide)] at H;exact H
   clear H;have H:=H1;clear H1;have zdi:=zM H;clear H;go_upto_region 3 with (fail)
   go_cut [56] (fun v56 wc => ∃ (kq : Nat) (x56_13 : Bool),v56 = .bool x56_13 ∧ Aside0 (carouselref16_Check.j1 kq x56_13 a0_0 a0_1 a0_2 a0_3 a0_4 a0_5 a0_6 a0_7 a0_8 a0_9 a0_10 a0_11 a0_12 a0_13 a0_14 a0_15 = some r) ∧ Aside0 (kq ≤ kj1) ∧ Aside0 (wc.heap[z7n]? = some (.cells #[.int .i64 a0_0,.int .i64 a0_1,.int .u8 a0_2,.int .u16 a0_3,.int .u16 a0_4,.int .i64 a0_5,.int .i64 a0_6,.int .i64 a0_7,.int .i64 a0_8,.int .i64 a0_9,.int .i64 a0_10,.int .i64 a0_11,.int .i64 a0_12,.int .i64 a0_13,.int .i64 a0_14,.bool a0_15] 25 (0,0))) ∧ Aside0 (Below w.heap.size w wc))
   case first =>
    have H:=zdi.out;clear zdi;by_cases c15 : a0_3 = 0
    ·
     rw [if_pos c15] at H;have c15b0 : (a0_3 == 0) = true:=beq_iff_eq.mpr c15;have c15b1 : (a0_3 != 0) = false:=bne_eq_false_iff_eq.mpr c15;clear c15;(first|rw [c15b0]|(simp only [i64_w,i32_w];rw [c15b0])|skip)
     have H':=zM H;clear H;obtain ⟨z4i,z4j,z4k,z4l,z4m,z4n,z4o,z4p,z4q,z4r,z0q,z0r,z0s,z0t,z0u,z0v,z4s,z4t,z4u,z4v,z4w,z4x,z4y,z4z,z50,z51,z0w,z0x,z0y,z0z,z10,z11⟩:=kc16 z00.out;go_wp2;go_meet
     case rel => exact ⟨_,(true),(by first|rfl|(simp;done)|(simp [*];done)),H',⟨by have:=HJ1.out;first|omega|exact Nat.le_refl _⟩,⟨by (with_reducible repeat first|apply zN|apply zD|apply zA);exact z00.out⟩,⟨by repeat first|(with_reducible first|exact HB.out|apply yA|apply yN|apply yD|refine yS ?_ z01.out)|exact HB.out⟩⟩
    rw [if_neg c15] at H;have c15b0 : (a0_3 == 0) = false:=beq_eq_false_iff_ne.mpr c15;have c15b1 : (a0_3 != 0) = true:=bne_iff_ne.mpr c15;(first|rw [c15b0]|(simp only [i64_w,i32_w];rw [c15b0])|skip)
    by_cases c17 : a0_3 > 4094
    ·
     rw [if_pos c17] at H;have c17b0 : decide (4094 < a0_3) = true:=dT c17;clear c17;have H':=zM H;clear H;obtain ⟨z52,z53,z54,z55,z56,z57,z58,z59,z5a,z5b,z12,z13,z14,z15,z16,z17,z5c,z5d,z5e,z5f,z5g,z5h,z5i,z5j,z5k,z5l,z18,z19,z1a,z1b,z1c,z1d⟩:=kc16 z00.out;go_wp2;go_meet
     case rel => exact ⟨_,(true),(by first|rfl|(simp;done)|(simp [*];done)),H',⟨by have:=HJ1.out;first|omega|exact Nat.le_refl _⟩,⟨by (with_reducible repeat first|apply zN|apply zD|apply zA);exact z00.out⟩,⟨by repeat first|(with_reducible first|exact HB.out|apply yA|apply yN|apply yD|refine yS ?_ z01.out)|exact HB.out⟩⟩
    rw [if_neg c17] at H;have c17b0 : decide (4094 < a0_3) = false:=dF c17;clear c17;by_cases c19 : a0_4 = 0
    ·
     rw [if_pos c19] at H;have c19b0 : (a0_4 == 0) = true:=beq_iff_eq.mpr c19;have c19b1 : (a0_4 != 0) = false:=bne_eq_false_iff_eq.mpr c19;clear c19;have H':=zM H;clear H;obtain ⟨z5m,z5n,z5o,z5p,z5q,z5r,z5s,z5t,z5u,z5v,z1e,z1f,z1g,z1h,z1i,z1j,z5w,z5x,z5y,z5z,z60,z61,z62,z63,z64,z65,z1k,z1l,z1m,z1n,z1o,z1p⟩:=kc16 z00.out;go_wp2;go_meet
     case rel => exact ⟨_,(true),(by first|rfl|(simp;done)|(simp [*];done)),H',⟨by have:=HJ1.out;first|omega|exact Nat.le_refl _⟩,⟨by (with_reducible repeat first|apply zN|apply zD|apply zA);exact z00.out⟩,⟨by repeat first|(with_reducible first|exact HB.out|apply yA|apply yN|apply yD|refine yS ?_ z01.out)|exact HB.out⟩⟩
    rw [if_neg c19] at H;have c19b0 : (a0_4 == 0) = false:=beq_eq_false_iff_ne.mpr c19;have c19b1 : (a0_4 != 0) = true:=bne_iff_ne.mpr c19;by_cases c21 : a0_4 > 4094
    ·
     rw [if_pos c21] at H;have c21b0 : decide (4094 < a0_4) = true:=dT c21;clear c21;have H':=zM H;clear H;obtain ⟨z66,z67,z68,z69,z6a,z6b,z6c,z6d,z6e,z6f,z1q,z1r,z1s,z1t,z1u,z1v,z6g,z6h,z6i,z6j,z6k,z6l,z6m,z6n,z6o,z6p,z1w,z1x,z1y,z1z,z20,z21⟩:=kc16 z00.out;go_wp2;go_meet
     case rel => exact ⟨_,(true),(by first|rfl|(simp;done)|(simp [*];done)),H',⟨by have:=HJ1.out;first|omega|exact Nat.le_refl _⟩,⟨by (with_reducible repeat first|apply zN|apply zD|apply zA);exact z00.out⟩,⟨by repeat first|(with_reducible first|exact HB.out|apply yA|apply yN|apply yD|refine yS ?_ z01.out)|exact HB.out⟩⟩
    rw [if_neg c21] at H;have c21b0 : decide (4094 < a0_4) = false:=dF c21;clear c21;have H':=zM H;clear H;obtain ⟨z6q,z6r,z6s,z6t,z6u,z6v,z6w,z6x,z6y,z6z,z22,z23,z24,z25,z26,z27,z70,z71,z72,z73,z74,z75,z76,z77,z78,z79,z28,z29,z2a,z2b,z2c,z2d⟩:=kc16 z00.out;go_wp2;go_meet
    case rel => exact ⟨_,((a0_3 == a0_4)),(by first|rfl|(simp;done)|(simp [*];done)),H',⟨by have:=HJ1.out;first|omega|exact Nat.le_refl _⟩,⟨by (with_reducible repeat first|apply zN|apply zD|apply zA);exact z00.out⟩,⟨by repeat first|(with_reducible first|exact HB.out|apply yA|apply yN|apply yD|refine yS ?_ z01.out)|exact HB.out⟩⟩
   case rest =>
    clear zdi;try clear c1
    try clear c2
    try clear p2
    try clear c4
    try clear c4b0
    try clear c5
    try clear c6
    try clear c6b0
    try clear p6
    try clear c8
    try clear c8b0
    try clear c10
    try clear c10b0
    try clear c13
    try clear c15
    try clear c15b0
    try clear c15b1
    try clear c17
    try clear c17b0
    try clear c19
    try clear c19b0
    try clear c19b1
    try clear c21
    try clear c21b0
    try clear z48
    try clear z49
    try clear z0k
    try clear z0l
    try clear z0m
    try clear z0n
    try clear z0o
    try clear z0p
    try clear z4a
    try clear z4b
    try clear z4c
    try clear z4d
    try clear z4e
    try clear z4f
    try clear z4g
    try clear z4h
    try clear z3o
    try clear z3p
    try clear z08
    try clear z09
    try clear z0a
    try clear z0b
    try clear z0c
    try clear z0d
    try clear z3q
    try clear z3r
    try clear z3s
    try clear z3t
    try clear z3u
    try clear z3v
    try clear z3w
    try clear z3x
    try clear z4i
    try clear z4j
    try clear z0q
    try clear z0r
    try clear z0s
    try clear z0t
    try clear z0u
    try clear z0v
    try clear z4k
    try clear z4l
    try clear z4m
    try clear z4n
    try clear z4o
    try clear z4p
    try clear z4q
    try clear z4r
    try clear z52
    try clear z53
    try clear z12
    try clear z13
    try clear z14
    try clear z15
    try clear z16
    try clear z17
    try clear z54
    try clear z55
    try clear z56
    try clear z57
    try clear z58
    try clear z59
    try clear z5a
    try clear z5b
    try clear z5m
    try clear z5n
    try clear z1e
    try clear z1f
    try clear z1g
    try clear z1h
    try clear z1i
    try clear z1j
    try clear z5o
    try clear z5p
    try clear z5q
    try clear z5r
    try clear z5s
    try clear z5t
    try clear z5u
    try clear z5v
    try clear z66
    try clear z67
    try clear z1q
    try clear z1r
    try clear z1s
    try clear z1t
    try clear z1u
    try clear z1v
    try clear z68
    try clear z69
    try clear z6a
    try clear z6b
    try clear z6c
    try clear z6d
    try clear z6e
    try clear z6f
    try clear z6q
    try clear z6r
    try clear z22
    try clear z23
    try clear z24
    try clear z25
    try clear z26
    try clear z27
    try clear z6s
    try clear z6t
    try clear z6u
    try clear z6v
    try clear z6w
    try clear z6x
    try clear z6y
    try clear z6z
    try clear z7o
    try clear z7p
    try clear z2e
    try clear z2f
    try clear z2g
    try clear z2h
    try clear z2i
    try clear z2j
    try clear z7q
    try clear z7r
    try clear z7s
    try clear z7t
    try clear z7u
    try clear z7v
    try clear z7w
    try clear z7x
    try clear z88
    try clear z89
    try clear z2q
    try clear z2r
    try clear z2s
    try clear z2t
    try clear z2u
    try clear z2v
    try clear z8a
    try clear z8b
    try clear z8c
    try clear z8d
    try clear z8e
    try clear z8f
    try clear z8g
    try clear z8h
    try clear z8s
    try clear z8t
    try clear z32
    try clear z33
    try clear z34
    try clear z35
    try clear z36
    try clear z37
    try clear z8u
    try clear z8v
    try clear z8w
    try clear z8x
    try clear z8y
    try clear z8z
    try clear z90
    try clear z91
    try clear z3e
    try clear z3f
    try clear z02
    try clear z03
    try clear z04
    try clear z05
    try clear z06
    try clear z07
    try clear z3g
    try clear z3h
    try clear z3i
    try clear z3j
    try clear z3k
    try clear z3l
    try clear z3m
    try clear z3n
    try clear z3y
    try clear z3z
    try clear z0e
    try clear z0f
    try clear z0g
    try clear z0h
    try clear z0i
    try clear z0j
    try clear z40
    try clear z41
    try clear z42
    try clear z43
    try clear z44
    try clear z45
    try clear z46
    try clear z47
    try clear z4s
    try clear z4t
    try clear z0w
    try clear z0x
    try clear z0y
    try clear z0z
    try clear z10
    try clear z11
    try clear z4u
    try clear z4v
    try clear z4w
    try clear z4x
    try clear z4y
    try clear z4z
    try clear z50
    try clear z51
    try clear z5c
    try clear z5d
    try clear z18
    try clear z19
    try clear z1a
    try clear z1b
    try clear z1c
    try clear z1d
    try clear z5e
    try clear z5f
    try clear z5g
    try clear z5h
    try clear z5i
    try clear z5j
    try clear z5k
    try clear z5l
    try clear z5w
    try clear z5x
    try clear z1k
    try clear z1l
    try clear z1m
    try clear z1n
    try clear z1o
    try clear z1p
    try clear z5y
    try clear z5z
    try clear z60
    try clear z61
    try clear z62
    try clear z63
    try clear z64
    try clear z65
    try clear z6g
    try clear z6h
    try clear z1w
    try clear z1x
    try clear z1y
    try clear z1z
    try clear z20
    try clear z21
    try clear z6i
    try clear z6j
    try clear z6k
    try clear z6l
    try clear z6m
    try clear z6n
    try clear z6o
    try clear z6p
    try clear z70
    try clear z71
    try clear z28
    try clear z29
    try clear z2a
    try clear z2b
    try clear z2c
    try clear z2d
    try clear z72
    try clear z73
    try clear z74
    try clear z75
    try clear z76
    try clear z77
    try clear z78
    try clear z79
    try clear z7y
    try clear z7z
    try clear z2k
    try clear z2l
    try clear z2m
    try clear z2n
    try clear z2o
    try clear z2p
    try clear z80
    try clear z81
    try clear z82
    try clear z83
    try clear z84
    try clear z85
    try clear z86
    try clear z87
    try clear z8i
    try clear z8j
    try clear z2w
    try clear z2x
    try clear z2y
    try clear z2z
    try clear z30
    try clear z31
    try clear z8k
    try clear z8l
    try clear z8m
    try clear z8n
    try clear z8o
    try clear z8p
    try clear z8q
    try clear z8r
    try clear z92
    try clear z93
    try clear z38
    try clear z39
    try clear z3a
    try clear z3b
    try clear z3c
    try clear z3d
    try clear z94
    try clear z95
    try clear z96
    try clear z97
    try clear z98
    try clear z99
    try clear z9a
    try clear z9b
    try clear p2
    try clear p6
    obtain ⟨kq,x56_13,rfl,HA,HJ13,z00,HB⟩:=hcut;cases kq with
   | zero => exact absurd HA.out (by simp [carouselref16_Check.j1])
   | succ kj13 =>
     have H:=HA.out;clear HA;simp only [carouselref16_Check.j1] at H;by_cases c24 : x56_13 = true
     ·
      subst c24;have H1 : (some 5) = some r:=by rw [if_pos rfl] at H;exact H
      clear H;have H:=H1;clear H1;obtain rfl:=Option.some.inj H;go_wp2;go_ret;exact ⟨by first|rfl|(simp [errW_none,errW_some] <;> rfl)|(simp [*,errW_none,errW_some] <;> rfl),by repeat first|(with_reducible first|exact HB.out|apply yA|apply yN|apply yD|refine yS ?_ z01.out)|exact HB.out⟩
     replace c24:=Bool.eq_false_iff.mpr c24;subst c24;have H1 : (carouselref16_Check.l0 kj13 (([a0_5,a0_7,a0_8,a0_9,a0_10,a0_11,a0_12,wrap64 (a0_6 + 1)] : List Int)) 0 a0_0 a0_1 a0_2 a0_3 a0_4 a0_5 a0_6 a0_7 a0_8 a0_9 a0_10 a0_11 a0_12 a0_13 a0_14 a0_15) = some r:=by rw [if_neg (show ¬ (false = true) by decide)] at H;exact H
     clear H;have H:=H1;clear H1;obtain ⟨y116,hy116⟩ : ∃ y_ : List Int,y_ = (([a0_5,a0_7,a0_8,a0_9,a0_10,a0_11,a0_12,wrap64 (a0_6 + 1)] : List Int)):=⟨_,rfl⟩
     replace H : (carouselref16_Check.l0 kj13 y116 0 a0_0 a0_1 a0_2 a0_3 a0_4 a0_5 a0_6 a0_7 a0_8 a0_9 a0_10 a0_11 a0_12 a0_13 a0_14 a0_15) = some r:=by first|(rw [hy116];with_reducible exact H)|(have H2_:=(Option.bind_some _ _).symm.trans H;rw [hy116];with_reducible exact H2_)|(have H2_:=(Option.bind_some _ _).symm.trans H;with_reducible exact H2_)|with_reducible exact H|(rw [hy116];exact H)|exact H
     have Ny116:=zM hy116;clear hy116;have H':=zM H;clear H;obtain ⟨z9c,z9d,z9e,z9f,z9g,z9h,z9i,z9j,z9k,z9l,z7a,z7b,z7c,z7d,z7e,z7f,z9m,z9n,z9o,z9p,z9q,z9r,z9s,z9t,z9u,z9v,z7g,z7h,z7i,z7j,z7k,z7l⟩:=kc16 z00.out;go_wp2_with (first|((with_reducible refine gate_dst (N:=74) rfl ?_);refine Kd.R_lit (Kd.int .i64) _ 2 ?hg (N:=74) ?hd (xs:=([a0_5,a0_7,a0_8,a0_9,a0_10,a0_11,a0_12,wrap64 (a0_6 + 1)] : List Int)) (inner:=[.int .i64 a0_5,.int .i64 a0_7,.int .i64 a0_8,.int .i64 a0_9,.int .i64 a0_10,.int .i64 a0_11,.int .i64 a0_12,.int .i64 (wrap64 (a0_6 + 1))]) (ok:=fun _ => True) (okp:=fun _ => True) ?hr ?hp (fun _ hk => hk) trivial (Below.refl _ _) (Nat.le_refl _) (by simp) ?_;(case hd => rfl);(case hg => rfl);(case hr => first|(go_simp;done)|(go_simp;rfl));(case hp => exact (Reps.one (show Kd.M (Kd.int .i64) _ _ _ a0_5 [.int .i64 a0_5] from rfl) (Reps.one (show Kd.M (Kd.int .i64) _ _ _ a0_7 [.int .i64 a0_7] from rfl) (Reps.one (show Kd.M (Kd.int .i64) _ _ _ a0_8 [.int .i64 a0_8] from rfl) (Reps.one (show Kd.M (Kd.int .i64) _ _ _ a0_9 [.int .i64 a0_9] from rfl) (Reps.one (show Kd.M (Kd.int .i64) _ _ _ a0_10 [.int .i64 a0_10] from rfl) (Reps.one (show Kd.M (Kd.int .i64) _ _ _ a0_11 [.int .i64 a0_11] from rfl) (Reps.one (show Kd.M (Kd.int .i64) _ _ _ a0_12 [.int .i64 a0_12] from rfl) (Reps.one (show Kd.M (Kd.int .i64) _ _ _ (wrap64 (a0_6 + 1)) [.int .i64 (wrap64 (a0_6 + 1))] from rfl) (Reps.none _ _))))))))));intro v117 w26 ho27 hb hg_ hnew_;clear hg_ hnew_;(first|rw [← Ny116.out] at ho27|(simp only [Int.reduceToNat] at ho27;rw [← Ny116.out] at ho27));have n0_:=zM (Kd.R_lower ho27 (yZ (by repeat first|(with_reducible first|exact HB.out|apply yA|apply yN|apply yD|refine yS ?_ z01.out)|exact HB.out)));have n1_:=zM (zB (g:=z7n) (o:=.cells #[.int .i64 a0_0,.int .i64 a0_1,.int .u8 a0_2,.int .u16 a0_3,.int .u16 a0_4,.int .i64 a0_5,.int .i64 a0_6,.int .i64 a0_7,.int .i64 a0_8,.int .i64 a0_9,.int .i64 a0_10,.int .i64 a0_11,.int .i64 a0_12,.int .i64 a0_13,.int .i64 a0_14,.bool a0_15] 25 (0,0)) (by (with_reducible repeat first|apply zN|apply zD|apply zA);exact z00.out) hb);have n2_:=zM (yT (by repeat first|(with_reducible first|exact HB.out|apply yA|apply yN|apply yD|refine yS ?_ z01.out)|exact HB.out) hb);clear z00;clear HB;have zdj:=n0_;have z00:=n1_;have HB:=n2_;clear n0_ n1_ n2_;clear hb ho27))
     go_loopg [4] kj13 (fun kq v4 w' => ∃ (x4_3 : Int),v4 = .int .i64 x4_3 ∧ Aside0 (carouselref16_Check.l0 kq y116 x4_3 a0_0 a0_1 a0_2 a0_3 a0_4 a0_5 a0_6 a0_7 a0_8 a0_9 a0_10 a0_11 a0_12 a0_13 a0_14 a0_15 = some r) ∧ Aside0 (kq ≤ kj13) ∧ Aside0 (Kd.R (Kd.int .i64) 2 w' w.heap.size (fun _ => True) v117 y116) ∧ Aside0 (w'.heap[z7n]? = some (.cells #[.int .i64 a0_0,.int .i64 a0_1,.int .u8 a0_2,.int .u16 a0_3,.int .u16 a0_4,.int .i64 a0_5,.int .i64 a0_6,.int .i64 a0_7,.int .i64 a0_8,.int .i64 a0_9,.int .i64 a0_10,.int .i64 a0_11,.int .i64 a0_12,.int .i64 a0_13,.int .i64 a0_14,.bool a0_15] 25 (0,0))) ∧ Aside0 (Below w.heap.size w w'))
     case atStart => exact ⟨(0),(by first|rfl|(simp;done)|(simp [*];done)),H',⟨Nat.le_refl _⟩,⟨by (with_reducible repeat (first|apply Kd.R_alloc|apply Kd.R_drewN|apply Kd.R_drew));exact zdj.out⟩,⟨by (with_reducible repeat first|apply zN|apply zD|apply zA);exact z00.out⟩,⟨by repeat first|(with_reducible first|exact HB.out|apply yA|apply yN|apply yD|refine yS ?_ z01.out)|exact HB.out⟩⟩
     case round =>
      clear H';try clear c1
      try clear c2
      try clear p2
      try clear c4
      try clear c4b0
      try clear c5
      try clear c6
      try clear c6b0
      try clear p6
      try clear c8
      try clear c8b0
      try clear c10
      try clear c10b0
      try clear c13
      try clear c15
      try clear c15b0
      try clear c15b1
      try clear c17
      try clear c17b0
      try clear c19
      try clear c19b0
      try clear c19b1
      try clear c21
      try clear c21b0
      try clear c24
      try clear z48
      try clear z49
      try clear z0k
      try clear z0l
      try clear z0m
      try clear z0n
      try clear z0o
      try clear z0p
      try clear z4a
      try clear z4b
      try clear z4c
      try clear z4d
      try clear z4e
      try clear z4f
      try clear z4g
      try clear z4h
      try clear z3o
      try clear z3p
      try clear z08
      try clear z09
      try clear z0a
      try clear z0b
      try clear z0c
      try clear z0d
      try clear z3q
      try clear z3r
      try clear z3s
      try clear z3t
      try clear z3u
      try clear z3v
      try clear z3w
      try clear z3x
      try clear z4i
      try clear z4j
      try clear z0q
      try clear z0r
      try clear z0s
      try clear z0t
      try clear z0u
      try clear z0v
      try clear z4k
      try clear z4l
      try clear z4m
      try clear z4n
      try clear z4o
      try clear z4p
      try clear z4q
      try clear z4r
      try clear z52
      try clear z53
      try clear z12
      try clear z13
      try clear z14
      try clear z15
      try clear z16
      try clear z17
      try clear z54
      try clear z55
      try clear z56
      try clear z57
      try clear z58
      try clear z59
      try clear z5a
      try clear z5b
      try clear z5m
      try clear z5n
      try clear z1e
      try clear z1f
      try clear z1g
      try clear z1h
      try clear z1i
      try clear z1j
      try clear z5o
      try clear z5p
      try clear z5q
      try clear z5r
      try clear z5s
      try clear z5t
      try clear z5u
      try clear z5v
      try clear z66
      try clear z67
      try clear z1q
      try clear z1r
      try clear z1s
      try clear z1t
      try clear z1u
      try clear z1v
      try clear z68
      try clear z69
      try clear z6a
      try clear z6b
      try clear z6c
      try clear z6d
      try clear z6e
      try clear z6f
      try clear z6q
      try clear z6r
      try clear z22
      try clear z23
      try clear z24
      try clear z25
      try clear z26
      try clear z27
      try clear z6s
      try clear z6t
      try clear z6u
      try clear z6v
      try clear z6w
      try clear z6x
      try clear z6y
      try clear z6z
      try clear z9c
      try clear z9d
      try clear z7a
      try clear z7b
      try clear z7c
      try clear z7d
      try clear z7e
      try clear z7f
      try clear z9e
      try clear z9f
      try clear z9g
      try clear z9h
      try clear z9i
      try clear z9j
      try clear z9k
      try clear z9l
      try clear z7o
      try clear z7p
      try clear z2e
      try clear z2f
      try clear z2g
      try clear z2h
      try clear z2i
      try clear z2j
      try clear z7q
      try clear z7r
      try clear z7s
      try clear z7t
      try clear z7u
      try clear z7v
      try clear z7w
      try clear z7x
      try clear z88
      try clear z89
      try clear z2q
      try clear z2r
      try clear z2s
      try clear z2t
      try clear z2u
      try clear z2v
      try clear z8a
      try clear z8b
      try clear z8c
      try clear z8d
      try clear z8e
      try clear z8f
      try clear z8g
      try clear z8h
      try clear z8s
      try clear z8t
      try clear z32
      try clear z33
      try clear z34
      try clear z35
      try clear z36
      try clear z37
      try clear z8u
      try clear z8v
      try clear z8w
      try clear z8x
      try clear z8y
      try clear z8z
      try clear z90
      try clear z91
      try clear z3e
      try clear z3f
      try clear z02
      try clear z03
      try clear z04
      try clear z05
      try clear z06
      try clear z07
      try clear z3g
      try clear z3h
      try clear z3i
      try clear z3j
      try clear z3k
      try clear z3l
      try clear z3m
      try clear z3n
      try clear z3y
      try clear z3z
      try clear z0e
      try clear z0f
      try clear z0g
      try clear z0h
      try clear z0i
      try clear z0j
      try clear z40
      try clear z41
      try clear z42
      try clear z43
      try clear z44
      try clear z45
      try clear z46
      try clear z47
      try clear z4s
      try clear z4t
      try clear z0w
      try clear z0x
      try clear z0y
      try clear z0z
      try clear z10
      try clear z11
      try clear z4u
      try clear z4v
      try clear z4w
      try clear z4x
      try clear z4y
      try clear z4z
      try clear z50
      try clear z51
      try clear z5c
      try clear z5d
      try clear z18
      try clear z19
      try clear z1a
      try clear z1b
      try clear z1c
      try clear z1d
      try clear z5e
      try clear z5f
      try clear z5g
      try clear z5h
      try clear z5i
      try clear z5j
      try clear z5k
      try clear z5l
      try clear z5w
      try clear z5x
      try clear z1k
      try clear z1l
      try clear z1m
      try clear z1n
      try clear z1o
      try clear z1p
      try clear z5y
      try clear z5z
      try clear z60
      try clear z61
      try clear z62
      try clear z63
      try clear z64
      try clear z65
      try clear z6g
      try clear z6h
      try clear z1w
      try clear z1x
      try clear z1y
      try clear z1z
      try clear z20
      try clear z21
      try clear z6i
      try clear z6j
      try clear z6k
      try clear z6l
      try clear z6m
      try clear z6n
      try clear z6o
      try clear z6p
      try clear z70
      try clear z71
      try clear z28
      try clear z29
      try clear z2a
      try clear z2b
      try clear z2c
      try clear z2d
      try clear z72
      try clear z73
      try clear z74
      try clear z75
      try clear z76
      try clear z77
      try clear z78
      try clear z79
      try clear z9m
      try clear z9n
      try clear z7g
      try clear z7h
      try clear z7i
      try clear z7j
      try clear z7k
      try clear z7l
      try clear z9o
      try clear z9p
      try clear z9q
      try clear z9r
      try clear z9s
      try clear z9t
      try clear z9u
      try clear z9v
      try clear z7y
      try clear z7z
      try clear z2k
      try clear z2l
      try clear z2m
      try clear z2n
      try clear z2o
      try clear z2p
      try clear z80
      try clear z81
      try clear z82
      try clear z83
      try clear z84
      try clear z85
      try clear z86
      try clear z87
      try clear z8i
      try clear z8j
      try clear z2w
      try clear z2x
      try clear z2y
      try clear z2z
      try clear z30
      try clear z31
      try clear z8k
      try clear z8l
      try clear z8m
      try clear z8n
      try clear z8o
      try clear z8p
      try clear z8q
      try clear z8r
      try clear z92
      try clear z93
      try clear z38
      try clear z39
      try clear z3a
      try clear z3b
      try clear z3c
      try clear z3d
      try clear z94
      try clear z95
      try clear z96
      try clear z97
      try clear z98
      try clear z99
      try clear z9a
      try clear z9b
      try clear p2
      try clear p6
      obtain ⟨x4_3,rfl,HA,HK3,HO_3,z00,HB⟩:=hrel;cases gk with
     | zero => exact absurd HA.out (by simp [carouselref16_Check.l0])
     | succ k3 =>
       have H:=HA.out;clear HA;simp only [carouselref16_Check.l0] at H;by_cases c28 : x4_3 < (y116.length : Int)
       ·
        rw [if_pos c28] at H;have c28b0 : decide (x4_3 < (y116.length : Int)) = true:=dT c28;clear c28;have zdk:=zM H;clear H;obtain ⟨Ao30,co30,eo30⟩:=Kd.R_slice HO_3.out;subst eo30;go_upto_if 82 with (fail)
        go_cut [5] (fun v5 wc => ∃ (kq : Nat) (x5_28 : Int),v5 = .int .i64 x5_28 ∧ Aside0 (carouselref16_Check.j3 kq y116 x4_3 x5_28 a0_0 a0_1 a0_2 a0_3 a0_4 a0_5 a0_6 a0_7 a0_8 a0_9 a0_10 a0_11 a0_12 a0_13 a0_14 a0_15 = some r) ∧ Aside0 (kq ≤ k3) ∧ Aside0 (Kd.R (Kd.int .i64) 2 wc w.heap.size (fun _ => True) (.slice Ao30 y116.length co30) y116) ∧ Aside0 (wc.heap[z7n]? = some (.cells #[.int .i64 a0_0,.int .i64 a0_1,.int .u8 a0_2,.int .u16 a0_3,.int .u16 a0_4,.int .i64 a0_5,.int .i64 a0_6,.int .i64 a0_7,.int .i64 a0_8,.int .i64 a0_9,.int .i64 a0_10,.int .i64 a0_11,.int .i64 a0_12,.int .i64 a0_13,.int .i64 a0_14,.bool a0_15] 25 (0,0))) ∧ Aside0 (Below w.heap.size w wc))
        case first =>
         have H:=zdk.out;clear zdk;by_cases c31 : x4_3 = 7
         ·
          rw [if_pos c31] at H;have c31b0 : (x4_3 == 7) = true:=beq_iff_eq.mpr c31;have c31b1 : (x4_3 != 7) = false:=bne_eq_false_iff_eq.mpr c31;clear c31;(first|rw [c31b0]|(simp only [i64_w,i32_w];rw [c31b0])|skip)
          have H':=zM H;clear H;go_wp2;go_meet
          case rel => exact ⟨_,(1048576 + 1),(by first|rfl|(simp;done)|(simp [*];done)),H',⟨by have:=HJ1.out;have:=HJ13.out;have:=HK3.out;first|omega|exact Nat.le_refl _⟩,⟨by (with_reducible repeat (first|apply Kd.R_alloc|apply Kd.R_drewN|apply Kd.R_drew));exact HO_3.out⟩,⟨by (with_reducible repeat first|apply zN|apply zD|apply zA);exact z00.out⟩,⟨by repeat first|(with_reducible first|exact HB.out|apply yA|apply yN|apply yD|refine yS ?_ z01.out)|exact HB.out⟩⟩
         rw [if_neg c31] at H;have c31b0 : (x4_3 == 7) = false:=beq_eq_false_iff_ne.mpr c31;have c31b1 : (x4_3 != 7) = true:=bne_iff_ne.mpr c31;(first|rw [c31b0]|(simp only [i64_w,i32_w];rw [c31b0])|skip)
         have H':=zM H;clear H;go_wp2;go_meet
         case rel => exact ⟨_,(1048576),(by first|rfl|(simp;done)|(simp [*];done)),H',⟨by have:=HJ1.out;have:=HJ13.out;have:=HK3.out;first|omega|exact Nat.le_refl _⟩,⟨by (with_reducible repeat (first|apply Kd.R_alloc|apply Kd.R_drewN|apply Kd.R_drew));exact HO_3.out⟩,⟨by (with_reducible repeat first|apply zN|apply zD|apply zA);exact z00.out⟩,⟨by repeat first|(with_reducible first|exact HB.out|apply yA|apply yN|apply yD|refine yS ?_ z01.out)|exact HB.out⟩⟩
        case rest =>
         clear zdk;try clear c1
         try clear c2
         try clear p2
         try clear c3
         try clear c4
         try clear c4b0
         try clear c5
         try clear c6
         try clear c6b0
         try clear p6
         try clear c8
         try clear c8b0
         try clear c10
         try clear c10b0
         try clear c13
         try clear c15
         try clear c15b0
         try clear c15b1
         try clear c17
         try clear c17b0
         try clear c19
         try clear c19b0
         try clear c19b1
         try clear c21
         try clear c21b0
         try clear c24
         try clear c28
         try clear c28b0
         try clear c31
         try clear c31b0
         try clear c31b1
         try clear z48
         try clear z49
         try clear z0k
         try clear z0l
         try clear z0m
         try clear z0n
         try clear z0o
         try clear z0p
         try clear z4a
         try clear z4b
         try clear z4c
         try clear z4d
         try clear z4e
         try clear z4f
         try clear z4g
         try clear z4h
         try clear z3o
         try clear z3p
         try clear z08
         try clear z09
         try clear z0a
         try clear z0b
         try clear z0c
         try clear z0d
         try clear z3q
         try clear z3r
         try clear z3s
         try clear z3t
         try clear z3u
         try clear z3v
         try clear z3w
         try clear z3x
         try clear z4i
         try clear z4j
         try clear z0q
         try clear z0r
         try clear z0s
         try clear z0t
         try clear z0u
         try clear z0v
         try clear z4k
         try clear z4l
         try clear z4m
         try clear z4n
         try clear z4o
         try clear z4p
         try clear z4q
         try clear z4r
         try clear z52
         try clear z53
         try clear z12
         try clear z13
         try clear z14
         try clear z15
         try clear z16
         try clear z17
         try clear z54
         try clear z55
         try clear z56
         try clear z57
         try clear z58
         try clear z59
         try clear z5a
         try clear z5b
         try clear z5m
         try clear z5n
         try clear z1e
         try clear z1f
         try clear z1g
         try clear z1h
         try clear z1i
         try clear z1j
         try clear z5o
         try clear z5p
         try clear z5q
         try clear z5r
         try clear z5s
         try clear z5t
         try clear z5u
         try clear z5v
         try clear z66
         try clear z67
         try clear z1q
         try clear z1r
         try clear z1s
         try clear z1t
         try clear z1u
         try clear z1v
         try clear z68
         try clear z69
         try clear z6a
         try clear z6b
         try clear z6c
         try clear z6d
         try clear z6e
         try clear z6f
         try clear z6q
         try clear z6r
         try clear z22
         try clear z23
         try clear z24
         try clear z25
         try clear z26
         try clear z27
         try clear z6s
         try clear z6t
         try clear z6u
         try clear z6v
         try clear z6w
         try clear z6x
         try clear z6y
         try clear z6z
         try clear z9c
         try clear z9d
         try clear z7a
         try clear z7b
         try clear z7c
         try clear z7d
         try clear z7e
         try clear z7f
         try clear z9e
         try clear z9f
         try clear z9g
         try clear z9h
         try clear z9i
         try clear z9j
         try clear z9k
         try clear z9l
         try clear z7o
         try clear z7p
         try clear z2e
         try clear z2f
         try clear z2g
         try clear z2h
         try clear z2i
         try clear z2j
         try clear z7q
         try clear z7r
         try clear z7s
         try clear z7t
         try clear z7u
         try clear z7v
         try clear z7w
         try clear z7x
         try clear z88
         try clear z89
         try clear z2q
         try clear z2r
         try clear z2s
         try clear z2t
         try clear z2u
         try clear z2v
         try clear z8a
         try clear z8b
         try clear z8c
         try clear z8d
         try clear z8e
         try clear z8f
         try clear z8g
         try clear z8h
         try clear z8s
         try clear z8t
         try clear z32
         try clear z33
         try clear z34
         try clear z35
         try clear z36
         try clear z37
         try clear z8u
         try clear z8v
         try clear z8w
         try clear z8x
         try clear z8y
         try clear z8z
         try clear z90
         try clear z91
         try clear z3e
         try clear z3f
         try clear z02
         try clear z03
         try clear z04
         try clear z05
         try clear z06
         try clear z07
         try clear z3g
         try clear z3h
         try clear z3i
         try clear z3j
         try clear z3k
         try clear z3l
         try clear z3m
         try clear z3n
         try clear z3y
         try clear z3z
         try clear z0e
         try clear z0f
         try clear z0g
         try clear z0h
         try clear z0i
         try clear z0j
         try clear z40
         try clear z41
         try clear z42
         try clear z43
         try clear z44
         try clear z45
         try clear z46
         try clear z47
         try clear z4s
         try clear z4t
         try clear z0w
         try clear z0x
         try clear z0y
         try clear z0z
         try clear z10
         try clear z11
         try clear z4u
         try clear z4v
         try clear z4w
         try clear z4x
         try clear z4y
         try clear z4z
         try clear z50
         try clear z51
         try clear z5c
         try clear z5d
         try clear z18
         try clear z19
         try clear z1a
         try clear z1b
         try clear z1c
         try clear z1d
         try clear z5e
         try clear z5f
         try clear z5g
         try clear z5h
         try clear z5i
         try clear z5j
         try clear z5k
         try clear z5l
         try clear z5w
         try clear z5x
         try clear z1k
         try clear z1l
         try clear z1m
         try clear z1n
         try clear z1o
         try clear z1p
         try clear z5y
         try clear z5z
         try clear z60
         try clear z61
         try clear z62
         try clear z63
         try clear z64
         try clear z65
         try clear z6g
         try clear z6h
         try clear z1w
         try clear z1x
         try clear z1y
         try clear z1z
         try clear z20
         try clear z21
         try clear z6i
         try clear z6j
         try clear z6k
         try clear z6l
         try clear z6m
         try clear z6n
         try clear z6o
         try clear z6p
         try clear z70
         try clear z71
         try clear z28
         try clear z29
         try clear z2a
         try clear z2b
         try clear z2c
         try clear z2d
         try clear z72
         try clear z73
         try clear z74
         try clear z75
         try clear z76
         try clear z77
         try clear z78
         try clear z79
         try clear z9m
         try clear z9n
         try clear z7g
         try clear z7h
         try clear z7i
         try clear z7j
         try clear z7k
         try clear z7l
         try clear z9o
         try clear z9p
         try clear z9q
         try clear z9r
         try clear z9s
         try clear z9t
         try clear z9u
         try clear z9v
         try clear z7y
         try clear z7z
         try clear z2k
         try clear z2l
         try clear z2m
         try clear z2n
         try clear z2o
         try clear z2p
         try clear z80
         try clear z81
         try clear z82
         try clear z83
         try clear z84
         try clear z85
         try clear z86
         try clear z87
         try clear z8i
         try clear z8j
         try clear z2w
         try clear z2x
         try clear z2y
         try clear z2z
         try clear z30
         try clear z31
         try clear z8k
         try clear z8l
         try clear z8m
         try clear z8n
         try clear z8o
         try clear z8p
         try clear z8q
         try clear z8r
         try clear z92
         try clear z93
         try clear z38
         try clear z39
         try clear z3a
         try clear z3b
         try clear z3c
         try clear z3d
         try clear z94
         try clear z95
         try clear z96
         try clear z97
         try clear z98
         try clear z99
         try clear z9a
         try clear z9b
         try clear p2
         try clear p6
         obtain ⟨kq,x5_28,rfl,HA,HJ28,HO_3,z00,HB⟩:=hcut;cases kq with
        | zero => exact absurd HA.out (by simp [carouselref16_Check.j3])
        | succ kj28 =>
          have H:=HA.out;clear HA;simp only [carouselref16_Check.j3] at H;by_cases c32 : 0 ≤ x4_3
          ·
           rw [if_pos c32] at H;have c32b0 : decide (0 ≤ x4_3) = true:=dT c32;clear c32;by_cases c33 : x4_3 < (y116.length : Int)
           ·
            rw [if_pos c33] at H;have c33b0 : decide (x4_3 < (y116.length : Int)) = true:=dT c33;clear c33;by_cases c34 : (rd y116 x4_3) < 1
            ·
             rw [if_pos c34] at H;have c34b0 : decide ((rd y116 x4_3) < 1) = true:=dT c34;clear c34;obtain rfl:=Option.some.inj H;have p119 : 0 ≤ (x4_3 : Int):=of_decide_eq_true (by first|(with_reducible assumption)|assumption);have q119 : x4_3 < (y116.length : Int):=of_decide_eq_true (by first|(with_reducible assumption)|assumption);obtain ⟨ad119,e119,z9w⟩:=Kd.at_int (Kd.R_reads' HO_3.out).2.2 x4_3 p119 q119;cases e119;replace p119:=eq_true p119;replace q119:=eq_true q119;go_wp2;go_ret;exact ⟨by first|rfl|(simp [errW_none,errW_some] <;> rfl)|(simp [*,errW_none,errW_some] <;> rfl),by repeat first|(with_reducible first|exact HB.out|apply yA|apply yN|apply yD|refine yS ?_ z01.out)|exact HB.out⟩
            rw [if_neg c34] at H;have c34b0 : decide ((rd y116 x4_3) < 1) = false:=dF c34;clear c34;by_cases c35 : (rd y116 x4_3) > x5_28
            ·
             rw [if_pos c35] at H;have c35b0 : decide (x5_28 < (rd y116 x4_3)) = true:=dT c35;clear c35;obtain rfl:=Option.some.inj H;have p119 : 0 ≤ (x4_3 : Int):=of_decide_eq_true (by first|(with_reducible assumption)|assumption);have q119 : x4_3 < (y116.length : Int):=of_decide_eq_true (by first|(with_reducible assumption)|assumption);obtain ⟨ad119,e119,z9w⟩:=Kd.at_int (Kd.R_reads' HO_3.out).2.2 x4_3 p119 q119;cases e119;replace p119:=eq_true p119;replace q119:=eq_true q119;have p120 : 0 ≤ (x4_3 : Int):=of_decide_eq_true (by first|(with_reducible assumption)|assumption);have q120 : x4_3 < (y116.length : Int):=of_decide_eq_true (by first|(with_reducible assumption)|assumption);obtain ⟨ad120,e120,z9x⟩:=Kd.at_int (Kd.R_reads' HO_3.out).2.2 x4_3 p120 q120;obtain rfl : ad119 = ad120:=(by injection e120)
             replace p120:=eq_true p120;replace q120:=eq_true q120;go_wp2;go_ret;exact ⟨by first|rfl|(simp [errW_none,errW_some] <;> rfl)|(simp [*,errW_none,errW_some] <;> rfl),by repeat first|(with_reducible first|exact HB.out|apply yA|apply yN|apply yD|refine yS ?_ z01.out)|exact HB.out⟩
            rw [if_neg c35] at H;have c35b0 : decide (x5_28 < (rd y116 x4_3)) = false:=dF c35;clear c35;have H':=zM H;clear H;have p119 : 0 ≤ (x4_3 : Int):=of_decide_eq_true (by first|(with_reducible assumption)|assumption);have q119 : x4_3 < (y116.length : Int):=of_decide_eq_true (by first|(with_reducible assumption)|assumption);obtain ⟨ad119,e119,z9w⟩:=Kd.at_int (Kd.R_reads' HO_3.out).2.2 x4_3 p119 q119;cases e119;replace p119:=eq_true p119;replace q119:=eq_true q119;have p120 : 0 ≤ (x4_3 : Int):=of_decide_eq_true (by first|(with_reducible assumption)|assumption);have q120 : x4_3 < (y116.length : Int):=of_decide_eq_true (by first|(with_reducible assumption)|assumption);obtain ⟨ad120,e120,z9x⟩:=Kd.at_int (Kd.R_reads' HO_3.out).2.2 x4_3 p120 q120;obtain rfl : ad119 = ad120:=(by injection e120)
            replace p120:=eq_true p120;replace q120:=eq_true q120;go_wp2;go_roundg kj28
            case measure => have:=HJ1.out;have:=HJ13.out;have:=HK3.out;have:=HJ28.out;omega
            case rel => exact ⟨(wrap64 (x4_3 + 1)),(by first|rfl|(simp;done)|(simp [*];done)),H',⟨by have:=HJ1.out;have:=HJ13.out;have:=HK3.out;have:=HJ28.out;omega⟩,⟨by (with_reducible repeat (first|apply Kd.R_alloc|apply Kd.R_drewN|apply Kd.R_drew));exact HO_3.out⟩,⟨by (with_reducible repeat first|apply zN|apply zD|apply zA);exact z00.out⟩,⟨by repeat first|(with_reducible first|exact HB.out|apply yA|apply yN|apply yD|refine yS ?_ z01.out)|exact HB.out⟩⟩
           rw [if_neg c33] at H;exact absurd H (by simp)
          rw [if_neg c32] at H;exact absurd H (by simp)
       rw [if_neg c28] at H;have c28b0 : decide (x4_3 < (y116.length : Int)) = false:=dF c28;clear c28;have zdl:=zM H;clear H;obtain ⟨Ao37,co37,eo37⟩:=Kd.R_slice HO_3.out;subst eo37;go_upto_region 14 with (fail)
       go_cut [115] (fun v115 wc => ∃ (kq : Nat) (z7m : Bool),v115 = .bool z7m ∧ Aside0 (carouselref16_Check.j4 kq z7m = some r) ∧ Aside0 (kq ≤ k3) ∧ Aside0 (wc.heap[z7n]? = some (.cells #[.int .i64 a0_0,.int .i64 a0_1,.int .u8 a0_2,.int .u16 a0_3,.int .u16 a0_4,.int .i64 a0_5,.int .i64 a0_6,.int .i64 a0_7,.int .i64 a0_8,.int .i64 a0_9,.int .i64 a0_10,.int .i64 a0_11,.int .i64 a0_12,.int .i64 a0_13,.int .i64 a0_14,.bool a0_15] 25 (0,0))) ∧ Aside0 (Below w.heap.size w wc))
       case first =>
        have H:=zdl.out;clear zdl;by_cases c38 : a0_13 < 1
        ·
         rw [if_pos c38] at H;have c38b0 : decide (a0_13 < 1) = true:=dT c38;clear c38;(first|rw [c38b0]|(simp only [i64_w,i32_w];rw [c38b0])|skip)
         have H':=zM H;clear H;obtain ⟨zba,zbb,zbc,zbd,zbe,zbf,zbg,zbh,zbi,zbj,z9y,z9z,za0,za1,za2,za3,zbk,zbl,zbm,zbn,zbo,zbp,zbq,zbr,zbs,zbt,za4,za5,za6,za7,za8,za9⟩:=kc16 z00.out;go_wp2;go_meet
         case rel => exact ⟨_,(true),(by first|rfl|(simp;done)|(simp [*];done)),H',⟨by have:=HJ1.out;have:=HJ13.out;have:=HK3.out;first|omega|exact Nat.le_refl _⟩,⟨by (with_reducible repeat first|apply zN|apply zD|apply zA);exact z00.out⟩,⟨by repeat first|(with_reducible first|exact HB.out|apply yA|apply yN|apply yD|refine yS ?_ z01.out)|exact HB.out⟩⟩
        rw [if_neg c38] at H;have c38b0 : decide (a0_13 < 1) = false:=dF c38;clear c38;(first|rw [c38b0]|(simp only [i64_w,i32_w];rw [c38b0])|skip)
        by_cases c40 : a0_13 > 1024
        ·
         rw [if_pos c40] at H;have c40b0 : decide (1024 < a0_13) = true:=dT c40;clear c40;have H':=zM H;clear H;obtain ⟨zbu,zbv,zbw,zbx,zby,zbz,zc0,zc1,zc2,zc3,zaa,zab,zac,zad,zae,zaf,zc4,zc5,zc6,zc7,zc8,zc9,zca,zcb,zcc,zcd,zag,zah,zai,zaj,zak,zal⟩:=kc16 z00.out;go_wp2;go_meet
         case rel => exact ⟨_,(true),(by first|rfl|(simp;done)|(simp [*];done)),H',⟨by have:=HJ1.out;have:=HJ13.out;have:=HK3.out;first|omega|exact Nat.le_refl _⟩,⟨by (with_reducible repeat first|apply zN|apply zD|apply zA);exact z00.out⟩,⟨by repeat first|(with_reducible first|exact HB.out|apply yA|apply yN|apply yD|refine yS ?_ z01.out)|exact HB.out⟩⟩
        rw [if_neg c40] at H;have c40b0 : decide (1024 < a0_13) = false:=dF c40;clear c40;by_cases c42 : a0_14 < 1
        ·
         rw [if_pos c42] at H;have c42b0 : decide (a0_14 < 1) = true:=dT c42;clear c42;have H':=zM H;clear H;obtain ⟨zce,zcf,zcg,zch,zci,zcj,zck,zcl,zcm,zcn,zam,zan,zao,zap,zaq,zar,zco,zcp,zcq,zcr,zcs,zct,zcu,zcv,zcw,zcx,zas,zat,zau,zav,zaw,zax⟩:=kc16 z00.out;go_wp2;go_meet
         case rel => exact ⟨_,(true),(by first|rfl|(simp;done)|(simp [*];done)),H',⟨by have:=HJ1.out;have:=HJ13.out;have:=HK3.out;first|omega|exact Nat.le_refl _⟩,⟨by (with_reducible repeat first|apply zN|apply zD|apply zA);exact z00.out⟩,⟨by repeat first|(with_reducible first|exact HB.out|apply yA|apply yN|apply yD|refine yS ?_ z01.out)|exact HB.out⟩⟩
        rw [if_neg c42] at H;have c42b0 : decide (a0_14 < 1) = false:=dF c42;clear c42;have H':=zM H;clear H;obtain ⟨zcy,zcz,zd0,zd1,zd2,zd3,zd4,zd5,zd6,zd7,zay,zaz,zb0,zb1,zb2,zb3,zd8,zd9,zda,zdb,zdc,zdd,zde,zdf,zdg,zdh,zb4,zb5,zb6,zb7,zb8,zb9⟩:=kc16 z00.out;go_wp2;go_meet
        case rel => exact ⟨_,(decide (a0_14 > 256)),(by first|rfl|(simp;done)|(simp [*];done)),H',⟨by have:=HJ1.out;have:=HJ13.out;have:=HK3.out;first|omega|exact Nat.le_refl _⟩,⟨by (with_reducible repeat first|apply zN|apply zD|apply zA);exact z00.out⟩,⟨by repeat first|(with_reducible first|exact HB.out|apply yA|apply yN|apply yD|refine yS ?_ z01.out)|exact HB.out⟩⟩
       case rest =>
        clear zdl;try clear p1
        try clear q1
        try clear hx1
        try clear c2
        try clear p2
        try clear c3
        try clear c4
        try clear p6
        try clear p11
        try clear q11
        try clear zdn
        try clear p12
        try clear q12
        try clear zdo
        try clear c28
        try clear c28b0
        try clear c32
        try clear c32b0
        try clear c33
        try clear c33b0
        try clear c34
        try clear c34b0
        try clear c35
        try clear c35b0
        try clear c38
        try clear c38b0
        try clear c40
        try clear c40b0
        try clear c42
        try clear c42b0
        try clear z3o
        try clear z3p
        try clear z08
        try clear z09
        try clear z0a
        try clear z0b
        try clear z0c
        try clear z0d
        try clear z3q
        try clear z3r
        try clear z3s
        try clear z3t
        try clear z3u
        try clear z3v
        try clear z3w
        try clear z3x
        try clear z4i
        try clear z4j
        try clear z0q
        try clear z0r
        try clear z0s
        try clear z0t
        try clear z0u
        try clear z0v
        try clear z4k
        try clear z4l
        try clear z4m
        try clear z4n
        try clear z4o
        try clear z4p
        try clear z4q
        try clear z4r
        try clear z52
        try clear z53
        try clear z12
        try clear z13
        try clear z14
        try clear z15
        try clear z16
        try clear z17
        try clear z54
        try clear z55
        try clear z56
        try clear z57
        try clear z58
        try clear z59
        try clear z5a
        try clear z5b
        try clear z5m
        try clear z5n
        try clear z1e
        try clear z1f
        try clear z1g
        try clear z1h
        try clear z1i
        try clear z1j
        try clear z5o
        try clear z5p
        try clear z5q
        try clear z5r
        try clear z5s
        try clear z5t
        try clear z5u
        try clear z5v
        try clear z66
        try clear z67
        try clear z1q
        try clear z1r
        try clear z1s
        try clear z1t
        try clear z1u
        try clear z1v
        try clear z68
        try clear z69
        try clear z6a
        try clear z6b
        try clear z6c
        try clear z6d
        try clear z6e
        try clear z6f
        try clear z6q
        try clear z6r
        try clear z22
        try clear z23
        try clear z24
        try clear z25
        try clear z26
        try clear z27
        try clear z6s
        try clear z6t
        try clear z6u
        try clear z6v
        try clear z6w
        try clear z6x
        try clear z6y
        try clear z6z
        try clear z9c
        try clear z9d
        try clear z7a
        try clear z7b
        try clear z7c
        try clear z7d
        try clear z7e
        try clear z7f
        try clear z9e
        try clear z9f
        try clear z9g
        try clear z9h
        try clear z9i
        try clear z9j
        try clear z9k
        try clear z9l
        try clear zba
        try clear zbb
        try clear z9y
        try clear z9z
        try clear za0
        try clear za1
        try clear za2
        try clear za3
        try clear zbc
        try clear zbd
        try clear zbe
        try clear zbf
        try clear zbg
        try clear zbh
        try clear zbi
        try clear zbj
        try clear zbu
        try clear zbv
        try clear zaa
        try clear zab
        try clear zac
        try clear zad
        try clear zae
        try clear zaf
        try clear zbw
        try clear zbx
        try clear zby
        try clear zbz
        try clear zc0
        try clear zc1
        try clear zc2
        try clear zc3
        try clear zce
        try clear zcf
        try clear zam
        try clear zan
        try clear zao
        try clear zap
        try clear zaq
        try clear zar
        try clear zcg
        try clear zch
        try clear zci
        try clear zcj
        try clear zck
        try clear zcl
        try clear zcm
        try clear zcn
        try clear zcy
        try clear zcz
        try clear zay
        try clear zaz
        try clear zb0
        try clear zb1
        try clear zb2
        try clear zb3
        try clear zd0
        try clear zd1
        try clear zd2
        try clear zd3
        try clear zd4
        try clear zd5
        try clear zd6
        try clear zd7
        try clear z7o
        try clear z7p
        try clear z2e
        try clear z2f
        try clear z2g
        try clear z2h
        try clear z2i
        try clear z2j
        try clear z7q
        try clear z7r
        try clear z7s
        try clear z7t
        try clear z7u
        try clear z7v
        try clear z7w
        try clear z7x
        try clear z88
        try clear z89
        try clear z2q
        try clear z2r
        try clear z2s
        try clear z2t
        try clear z2u
        try clear z2v
        try clear z8a
        try clear z8b
        try clear z8c
        try clear z8d
        try clear z8e
        try clear z8f
        try clear z8g
        try clear z8h
        try clear z8s
        try clear z8t
        try clear z32
        try clear z33
        try clear z34
        try clear z35
        try clear z36
        try clear z37
        try clear z8u
        try clear z8v
        try clear z8w
        try clear z8x
        try clear z8y
        try clear z8z
        try clear z90
        try clear z91
        try clear z3e
        try clear z3f
        try clear z02
        try clear z03
        try clear z04
        try clear z05
        try clear z06
        try clear z07
        try clear z3g
        try clear z3h
        try clear z3i
        try clear z3j
        try clear z3k
        try clear z3l
        try clear z3m
        try clear z3n
        try clear z3y
        try clear z3z
        try clear z0e
        try clear z0f
        try clear z0g
        try clear z0h
        try clear z0i
        try clear z0j
        try clear z40
        try clear z41
        try clear z42
        try clear z43
        try clear z44
        try clear z45
        try clear z46
        try clear z47
        try clear z4s
        try clear z4t
        try clear z0w
        try clear z0x
        try clear z0y
        try clear z0z
        try clear z10
        try clear z11
        try clear z4u
        try clear z4v
        try clear z4w
        try clear z4x
        try clear z4y
        try clear z4z
        try clear z50
        try clear z51
        try clear z5c
        try clear z5d
        try clear z18
        try clear z19
        try clear z1a
        try clear z1b
        try clear z1c
        try clear z1d
        try clear z5e
        try clear z5f
        try clear z5g
        try clear z5h
        try clear z5i
        try clear z5j
        try clear z5k
        try clear z5l
        try clear z5w
        try clear z5x
        try clear z1k
        try clear z1l
        try clear z1m
        try clear z1n
        try clear z1o
        try clear z1p
        try clear z5y
        try clear z5z
        try clear z60
        try clear z61
        try clear z62
        try clear z63
        try clear z64
        try clear z65
        try clear z6g
        try clear z6h
        try clear z1w
        try clear z1x
        try clear z1y
        try clear z1z
        try clear z20
        try clear z21
        try clear z6i
        try clear z6j
        try clear z6k
        try clear z6l
        try clear z6m
        try clear z6n
        try clear z6o
        try clear z6p
        try clear z70
        try clear z71
        try clear z28
        try clear z29
        try clear z2a
        try clear z2b
        try clear z2c
        try clear z2d
        try clear z72
        try clear z73
        try clear z74
        try clear z75
        try clear z76
        try clear z77
        try clear z78
        try clear z79
        try clear z9m
        try clear z9n
        try clear z7g
        try clear z7h
        try clear z7i
        try clear z7j
        try clear z7k
        try clear z7l
        try clear z9o
        try clear z9p
        try clear z9q
        try clear z9r
        try clear z9s
        try clear z9t
        try clear z9u
        try clear z9v
        try clear zbk
        try clear zbl
        try clear za4
        try clear za5
        try clear za6
        try clear za7
        try clear za8
        try clear za9
        try clear zbm
        try clear zbn
        try clear zbo
        try clear zbp
        try clear zbq
        try clear zbr
        try clear zbs
        try clear zbt
        try clear zc4
        try clear zc5
        try clear zag
        try clear zah
        try clear zai
        try clear zaj
        try clear zak
        try clear zal
        try clear zc6
        try clear zc7
        try clear zc8
        try clear zc9
        try clear zca
        try clear zcb
        try clear zcc
        try clear zcd
        try clear zco
        try clear zcp
        try clear zas
        try clear zat
        try clear zau
        try clear zav
        try clear zaw
        try clear zax
        try clear zcq
        try clear zcr
        try clear zcs
        try clear zct
        try clear zcu
        try clear zcv
        try clear zcw
        try clear zcx
        try clear zd8
        try clear zd9
        try clear zb4
        try clear zb5
        try clear zb6
        try clear zb7
        try clear zb8
        try clear zb9
        try clear zda
        try clear zdb
        try clear zdc
        try clear zdd
        try clear zde
        try clear zdf
        try clear zdg
        try clear zdh
        try clear z7y
        try clear z7z
        try clear z2k
        try clear z2l
        try clear z2m
        try clear z2n
        try clear z2o
        try clear z2p
        try clear z80
        try clear z81
        try clear z82
        try clear z83
        try clear z84
        try clear z85
        try clear z86
        try clear z87
        try clear z8i
        try clear z8j
        try clear z2w
        try clear z2x
        try clear z2y
        try clear z2z
        try clear z30
        try clear z31
        try clear z8k
        try clear z8l
        try clear z8m
        try clear z8n
        try clear z8o
        try clear z8p
        try clear z8q
        try clear z8r
        try clear z92
        try clear z93
        try clear z38
        try clear z39
        try clear z3a
        try clear z3b
        try clear z3c
        try clear z3d
        try clear z94
        try clear z95
        try clear z96
        try clear z97
        try clear z98
        try clear z99
        try clear z9a
        try clear z9b
        try clear z9w
        try clear z9x
        try clear p119
        try clear p120
        try clear p2
        try clear p6
        try clear q119
        try clear q120
        obtain ⟨kq,z7m,rfl,HA,HJ35,z00,HB⟩:=hcut;cases kq with
       | zero => exact absurd HA.out (by simp [carouselref16_Check.j4])
       | succ kj35 =>
         have H:=HA.out;clear HA;simp only [carouselref16_Check.j4] at H;by_cases c45 : z7m = true
         ·
          subst c45;have H1 : (some 4) = some r:=by rw [if_pos rfl] at H;exact H
          clear H;have H:=H1;clear H1;obtain rfl:=Option.some.inj H;go_wp2;go_ret;exact ⟨by first|rfl|(simp [errW_none,errW_some] <;> rfl)|(simp [*,errW_none,errW_some] <;> rfl),by repeat first|(with_reducible first|exact HB.out|apply yA|apply yN|apply yD|refine yS ?_ z01.out)|exact HB.out⟩
         replace c45:=Bool.eq_false_iff.mpr c45;subst c45;have H1 : (some 0) = some r:=by rw [if_neg (show ¬ (false = true) by decide)] at H;exact H
         clear H;have H:=H1;clear H1;obtain rfl:=Option.some.inj H;go_wp2;go_ret;exact ⟨by first|rfl|(simp [errW_none,errW_some] <;> rfl)|(simp [*,errW_none,errW_some] <;> rfl),by repeat first|(with_reducible first|exact HB.out|apply yA|apply yN|apply yD|refine yS ?_ z01.out)|exact HB.out⟩

end Go.Proofs.Ytapicoienpbdfaa.PPlanTells
