-- Written by a program of this work, after the translation.
import Derived.Test.YtapicoienpbdfaaPPlanTellsx0
import Derived.Test.YtapicoienpbdfaaPPlanTellsx1
import Derived.Test.YtapicoienpbdfaaPPlanTellsx3
import Derived.Test.YtapicoienpbdfaaPPlanTellsx6
import Derived.Test.YtapicoienpbdfaaPPlanTellsx7
import Derived.Test.YtapicoienpbdfaaPPlanTellsx8
import Derived.Test.YtapicoienpbdfaaPPlanTellsx14
import Derived.Test.YtapicoienpbdfaaPPlanTellsx15
import Derived.Test.YtapicoienpbdfaaPPlanTellsx16
import Derived.Test.YtapicoienpbdfaaPPlanTellsx17
import Derived.Test.YtapicoienpbdfaaPPlanTellsx18
namespace Go.Proofs.Ytapicoienpbdfaa.PPlanTells
open Go.RowKit Go.Proofs.YtapicoienpbdfaaW.PrintWords Go.Proofs.YtapicoienpbdfaaW.PrintLast Go.Proofs.YtapicoienpbdfaaW.PrintMore
attribute [local go_sem] max2_int min2_int max_two min_two max_three min_three max_four min_four   -- for this text's walks alone
set_option linter.unusedVariables false
set_option linter.unusedSimpArgs false

/-! ### carousellaw16_PlanTells: function 3 -/
def carousellaw16_PlanTells.f (k : Nat) (a0_0 : Int) (a0_1 : Int) (a0_2 : Int) (a0_3 : Int) (a0_4 : Int) (a0_5 : Int) (a0_6 : Int) (a0_7 : Int) (a0_8 : Int) (a0_9 : Int) (a0_10 : Int) (a0_11 : Int) (a0_12 : Int) (a0_13 : Int) (a0_14 : Int) (a0_15 : Bool) (a1 : Int) (a2 : Int) : Option (Bool) := (carousellaw16_Of.f a0_0 a0_1 a0_2 a0_3 a0_4 a0_5 a0_6 a0_7 a0_8 a0_9 a0_10 a0_11 a0_12 a0_13 a0_14 a0_15).bind fun bt219 => ((plan_Plan_Role.f k a0_0 a0_1 a0_2 a0_3 a0_4 a0_5 a0_6 a0_7 a0_8 a0_9 a0_10 a0_11 a0_12 a0_13 a0_14 a0_15 a1).bind fun bt236 => ((carouselref16_Role.f k bt219.1 bt219.2.1 bt219.2.2.1 bt219.2.2.2.1 bt219.2.2.2.2.1 bt219.2.2.2.2.2.1 bt219.2.2.2.2.2.2.1 bt219.2.2.2.2.2.2.2.1 bt219.2.2.2.2.2.2.2.2.1 bt219.2.2.2.2.2.2.2.2.2.1 bt219.2.2.2.2.2.2.2.2.2.2.1 bt219.2.2.2.2.2.2.2.2.2.2.2.1 bt219.2.2.2.2.2.2.2.2.2.2.2.2.1 bt219.2.2.2.2.2.2.2.2.2.2.2.2.2.1 bt219.2.2.2.2.2.2.2.2.2.2.2.2.2.2.1 bt219.2.2.2.2.2.2.2.2.2.2.2.2.2.2.2 a1).bind fun bt238 => ((plan_Plan_Far.f k a0_0 a0_1 a0_2 a0_3 a0_4 a0_5 a0_6 a0_7 a0_8 a0_9 a0_10 a0_11 a0_12 a0_13 a0_14 a0_15 a1 a2).bind fun bt240 => ((carouselref16_Far.f k bt219.1 bt219.2.1 bt219.2.2.1 bt219.2.2.2.1 bt219.2.2.2.2.1 bt219.2.2.2.2.2.1 bt219.2.2.2.2.2.2.1 bt219.2.2.2.2.2.2.2.1 bt219.2.2.2.2.2.2.2.2.1 bt219.2.2.2.2.2.2.2.2.2.1 bt219.2.2.2.2.2.2.2.2.2.2.1 bt219.2.2.2.2.2.2.2.2.2.2.2.1 bt219.2.2.2.2.2.2.2.2.2.2.2.2.1 bt219.2.2.2.2.2.2.2.2.2.2.2.2.2.1 bt219.2.2.2.2.2.2.2.2.2.2.2.2.2.2.1 bt219.2.2.2.2.2.2.2.2.2.2.2.2.2.2.2 a1 a2).bind fun bt242 => ((carousellaw16_Awake.f k).bind fun t244 => (if t244 = true then ((plan_Plan_Node.f k a0_0 a0_1 a0_2 a0_3 a0_4 a0_5 a0_6 a0_7 a0_8 a0_9 a0_10 a0_11 a0_12 a0_13 a0_14 a0_15 a1).bind fun t245 => ((carouselref16_Node.f k bt219.1 bt219.2.1 bt219.2.2.1 bt219.2.2.2.1 bt219.2.2.2.2.1 bt219.2.2.2.2.2.1 bt219.2.2.2.2.2.2.1 bt219.2.2.2.2.2.2.2.1 bt219.2.2.2.2.2.2.2.2.1 bt219.2.2.2.2.2.2.2.2.2.1 bt219.2.2.2.2.2.2.2.2.2.2.1 bt219.2.2.2.2.2.2.2.2.2.2.2.1 bt219.2.2.2.2.2.2.2.2.2.2.2.2.1 bt219.2.2.2.2.2.2.2.2.2.2.2.2.2.1 bt219.2.2.2.2.2.2.2.2.2.2.2.2.2.2.1 bt219.2.2.2.2.2.2.2.2.2.2.2.2.2.2.2 a1).bind fun t246 => (if t245 = t246 then ((plan_Plan_Host.f k a0_0 a0_1 a0_2 a0_3 a0_4 a0_5 a0_6 a0_7 a0_8 a0_9 a0_10 a0_11 a0_12 a0_13 a0_14 a0_15 a1).bind fun t247 => ((carouselref16_Host.f k bt219.1 bt219.2.1 bt219.2.2.1 bt219.2.2.2.1 bt219.2.2.2.2.1 bt219.2.2.2.2.2.1 bt219.2.2.2.2.2.2.1 bt219.2.2.2.2.2.2.2.1 bt219.2.2.2.2.2.2.2.2.1 bt219.2.2.2.2.2.2.2.2.2.1 bt219.2.2.2.2.2.2.2.2.2.2.1 bt219.2.2.2.2.2.2.2.2.2.2.2.1 bt219.2.2.2.2.2.2.2.2.2.2.2.2.1 bt219.2.2.2.2.2.2.2.2.2.2.2.2.2.1 bt219.2.2.2.2.2.2.2.2.2.2.2.2.2.2.1 bt219.2.2.2.2.2.2.2.2.2.2.2.2.2.2.2 a1).bind fun t248 => (if t247 = t248 then (if bt236.1 = bt238.1 then (if bt236.2 = bt238.2 then (if bt240.1 = bt242.1 then (if bt240.2 = bt242.2 then ((plan_Plan_End.f k a0_0 a0_1 a0_2 a0_3 a0_4 a0_5 a0_6 a0_7 a0_8 a0_9 a0_10 a0_11 a0_12 a0_13 a0_14 a0_15 a1 a2).bind fun t249 => ((carouselref16_End.f k bt219.1 bt219.2.1 bt219.2.2.1 bt219.2.2.2.1 bt219.2.2.2.2.1 bt219.2.2.2.2.2.1 bt219.2.2.2.2.2.2.1 bt219.2.2.2.2.2.2.2.1 bt219.2.2.2.2.2.2.2.2.1 bt219.2.2.2.2.2.2.2.2.2.1 bt219.2.2.2.2.2.2.2.2.2.2.1 bt219.2.2.2.2.2.2.2.2.2.2.2.1 bt219.2.2.2.2.2.2.2.2.2.2.2.2.1 bt219.2.2.2.2.2.2.2.2.2.2.2.2.2.1 bt219.2.2.2.2.2.2.2.2.2.2.2.2.2.2.1 bt219.2.2.2.2.2.2.2.2.2.2.2.2.2.2.2 a1 a2).bind fun t250 => (if t249 = t250 then ((plan_Plan_Group.f a0_0 a0_1 a0_2 a0_3 a0_4 a0_5 a0_6 a0_7 a0_8 a0_9 a0_10 a0_11 a0_12 a0_13 a0_14 a0_15).bind fun t251 => ((carouselref16_Group.f).bind fun t252 => (some (t251.toList == t252.toList)))) else (some false)))) else (some false)) else (some false)) else (some false)) else (some false)) else (some false)))) else (some false)))) else (some false)))))))
theorem carousellaw16_PlanTells.mono : ∀ a0 a1 a2 a3 a4 a5 a6 a7 a8 a9 a10 a11 a12 a13 a14 a15 a16 a17 k, LeO (carousellaw16_PlanTells.f k a0 a1 a2 a3 a4 a5 a6 a7 a8 a9 a10 a11 a12 a13 a14 a15 a16 a17) (carousellaw16_PlanTells.f (k + 1) a0 a1 a2 a3 a4 a5 a6 a7 a8 a9 a10 a11 a12 a13 a14 a15 a16 a17) := by
 intro a0 a1 a2 a3 a4 a5 a6 a7 a8 a9 a10 a11 a12 a13 a14 a15 a16 a17 k;unfold carousellaw16_PlanTells.f
 repeat' first
  | (with_reducible exact carousellaw16_Awake.mono _)
  | (with_reducible exact carouselref16_End.mono _ _ _ _ _ _ _ _ _ _ _ _ _ _ _ _ _ _ _)
  | (with_reducible exact carouselref16_Far.mono _ _ _ _ _ _ _ _ _ _ _ _ _ _ _ _ _ _ _)
  | (with_reducible exact carouselref16_Host.mono _ _ _ _ _ _ _ _ _ _ _ _ _ _ _ _ _ _)
  | (with_reducible exact carouselref16_Node.mono _ _ _ _ _ _ _ _ _ _ _ _ _ _ _ _ _ _)
  | (with_reducible exact carouselref16_Role.mono _ _ _ _ _ _ _ _ _ _ _ _ _ _ _ _ _ _)
  | (with_reducible exact plan_Plan_End.mono _ _ _ _ _ _ _ _ _ _ _ _ _ _ _ _ _ _ _)
  | (with_reducible exact plan_Plan_Far.mono _ _ _ _ _ _ _ _ _ _ _ _ _ _ _ _ _ _ _)
  | (with_reducible exact plan_Plan_Host.mono _ _ _ _ _ _ _ _ _ _ _ _ _ _ _ _ _ _)
  | (with_reducible exact plan_Plan_Node.mono _ _ _ _ _ _ _ _ _ _ _ _ _ _ _ _ _ _)
  | (with_reducible exact plan_Plan_Role.mono _ _ _ _ _ _ _ _ _ _ _ _ _ _ _ _ _ _)
  | (with_reducible exact LeO.refl _)
  | (with_reducible exact LeO.none _)
  | (with_reducible refine LeO.ite ?_ ?_)
  | (with_reducible refine LeO.bind ?_ (fun _ => ?_))
  | exact carousellaw16_Awake.mono _
  | exact carouselref16_End.mono _ _ _ _ _ _ _ _ _ _ _ _ _ _ _ _ _ _ _
  | exact carouselref16_Far.mono _ _ _ _ _ _ _ _ _ _ _ _ _ _ _ _ _ _ _
  | exact carouselref16_Host.mono _ _ _ _ _ _ _ _ _ _ _ _ _ _ _ _ _ _
  | exact carouselref16_Node.mono _ _ _ _ _ _ _ _ _ _ _ _ _ _ _ _ _ _
  | exact carouselref16_Role.mono _ _ _ _ _ _ _ _ _ _ _ _ _ _ _ _ _ _
  | exact plan_Plan_End.mono _ _ _ _ _ _ _ _ _ _ _ _ _ _ _ _ _ _ _
  | exact plan_Plan_Far.mono _ _ _ _ _ _ _ _ _ _ _ _ _ _ _ _ _ _ _
  | exact plan_Plan_Host.mono _ _ _ _ _ _ _ _ _ _ _ _ _ _ _ _ _ _
  | exact plan_Plan_Node.mono _ _ _ _ _ _ _ _ _ _ _ _ _ _ _ _ _ _
  | exact plan_Plan_Role.mono _ _ _ _ _ _ _ _ _ _ _ _ _ _ _ _ _ _
  | exact LeO.none _
  | refine LeO.ite ?_ ?_
  | refine LeO.bind ?_ (fun _ => ?_)
def carousellaw16_PlanTells.T6 : Bool × List (List Nat × List Nat) := (true, [([], []), ([0, 0], [0]), ([1], [1]), ([1], [1]), ([2, 3, 1, 1], [1, 2, 3]), ([1], [1]), ([1], [1]), ([5, 6, 4, 1], [1, 5, 6]), ([4, 7, 1], [1, 4, 7]), ([1, 8], [1, 8]), ([9, 7], [9]), ([10], [10]), ([10], [10]), ([11, 12, 10, 10], [10, 11, 12]), ([10], [10]), ([10], [10]), ([14, 15, 13, 10], [10, 14, 15]), ([13, 16, 10], [10, 13, 16]), ([10, 17], [10, 17]), ([18, 16], [18]), ([19], [19]), ([19], [19]), ([20, 21, 19], [19, 20, 21]), ([19, 22], [19, 22]), ([23, 19], [23]), ([24], [24]), ([24], [24]), ([25, 26, 24], [24, 25, 26]), ([24, 27], [24, 27]), ([28, 24], [28]), ([29], [29]), ([29], [29]), ([30, 31, 29], [29, 30, 31]), ([29, 32], [29, 32]), ([33, 29], [33]), ([34], [34]), ([34], [34]), ([35, 36, 34], [34, 35, 36]), ([34, 37], [34, 37]), ([38, 34], [38]), ([39], [39]), ([39], [39]), ([39], [39]), ([40, 41, 42, 39, 39], [39, 40, 41, 42]), ([39], [39]), ([39], [39]), ([39], [39]), ([44, 45, 46, 43, 39], [39, 44, 45, 46]), ([43, 47, 39], [39, 43, 47]), ([39, 48], [39, 48]), ([49, 47], [49]), ([50], [50]), ([51, 50, 50], [50, 51]), ([52, 50], [50]), ([52, 53, 50], [50, 52, 53]), ([50, 54], [50, 54]), ([55, 53, 0, 1, 2, 3, 4, 5, 6, 7, 8, 9, 10, 11, 12, 13, 14, 15, 16, 17, 18, 19, 20, 21, 22, 23, 24, 25, 26, 27, 28, 29, 30, 31, 32, 33, 34, 35, 36, 37, 38, 39, 40, 41, 42, 43, 44, 45, 46, 47, 48, 49, 50, 51, 52, 53, 54, 55], [55])])
def carousellaw16_PlanTells.B6 : List Nat := [0, 1, 3, 3, 15, 3, 3, 127, 255, 511, 1023, 2047, 2047, 8191, 2047, 2047, 65535, 131071, 262143, 524287, 1048575, 1048575, 4194303, 8388607, 16777215, 33554431, 33554431, 134217727, 268435455, 536870911, 1073741823, 1073741823, 4294967295, 8589934591, 17179869183, 34359738367, 34359738367, 137438953471, 274877906943, 549755813887, 1099511627775, 1099511627775, 1099511627775, 8796093022207, 1099511627775, 1099511627775, 1099511627775, 140737488355327, 281474976710655, 562949953421311, 1125899906842623, 2251799813685247, 4503599627370495, 9007199254740991, 18014398509481983, 36028797018963967, 72057594037927935]
theorem carousellaw16_PlanTells.tab6 : rtab .any (opsOf Try.f3 6) = carousellaw16_PlanTells.T6 := by kernel_rfl
theorem carousellaw16_PlanTells.bits6 : waitsOk carousellaw16_PlanTells.T6.2 carousellaw16_PlanTells.B6 = true := by kernel_rfl
theorem pt_W {P : Program} {f : FuncId} {args : Array Value} {Q : Ending → World → Prop} {W : World} (h : ∀ W', W' = W → Calls P f args W' Q) : Calls P f args W Q := h W rfl
theorem pt_call {w W w1 : World} (h : Below w.heap.size w W) (hb : Below W.heap.size W w1) : Below w.heap.size w w1 := h.trans (hb.mono h.size)
set_option maxHeartbeats 60000000 in
set_option maxRecDepth 100000 in
theorem carousellaw16_PlanTells.calls (k : Nat) (a0_0 : Int) (a0_1 : Int) (a0_2 : Int) (a0_3 : Int) (a0_4 : Int) (a0_5 : Int) (a0_6 : Int) (a0_7 : Int) (a0_8 : Int) (a0_9 : Int) (a0_10 : Int) (a0_11 : Int) (a0_12 : Int) (a0_13 : Int) (a0_14 : Int) (a0_15 : Bool) (a1 : Int) (a2 : Int) (r : Bool) (w : World) (h : carousellaw16_PlanTells.f k a0_0 a0_1 a0_2 a0_3 a0_4 a0_5 a0_6 a0_7 a0_8 a0_9 a0_10 a0_11 a0_12 a0_13 a0_14 a0_15 a1 a2 = some r) (hT : r = true) :
  Calls Try.prog 3 #[.agg #[.int .i64 a0_0, .int .i64 a0_1, .int .u8 a0_2, .int .u16 a0_3, .int .u16 a0_4, .int .i64 a0_5, .int .i64 a0_6, .int .i64 a0_7, .int .i64 a0_8, .int .i64 a0_9, .int .i64 a0_10, .int .i64 a0_11, .int .i64 a0_12, .int .i64 a0_13, .int .i64 a0_14, .bool a0_15], .int .i64 a1, .int .i64 a2] w fun e w' => e = .returned (.bool r) ∧ Below w.heap.size w w' := by
 have hu24:=Try.underlying24;have hu25:=Try.underlying25;have HB:=zM (Below.refl w.heap.size w);have H : ((carousellaw16_Of.f a0_0 a0_1 a0_2 a0_3 a0_4 a0_5 a0_6 a0_7 a0_8 a0_9 a0_10 a0_11 a0_12 a0_13 a0_14 a0_15).bind fun bt219 => ((plan_Plan_Role.f k a0_0 a0_1 a0_2 a0_3 a0_4 a0_5 a0_6 a0_7 a0_8 a0_9 a0_10 a0_11 a0_12 a0_13 a0_14 a0_15 a1).bind fun bt236 => ((carouselref16_Role.f k bt219.1 bt219.2.1 bt219.2.2.1 bt219.2.2.2.1 bt219.2.2.2.2.1 bt219.2.2.2.2.2.1 bt219.2.2.2.2.2.2.1 bt219.2.2.2.2.2.2.2.1 bt219.2.2.2.2.2.2.2.2.1 bt219.2.2.2.2.2.2.2.2.2.1 bt219.2.2.2.2.2.2.2.2.2.2.1 bt219.2.2.2.2.2.2.2.2.2.2.2.1 bt219.2.2.2.2.2.2.2.2.2.2.2.2.1 bt219.2.2.2.2.2.2.2.2.2.2.2.2.2.1 bt219.2.2.2.2.2.2.2.2.2.2.2.2.2.2.1 bt219.2.2.2.2.2.2.2.2.2.2.2.2.2.2.2 a1).bind fun bt238 => ((plan_Plan_Far.f k a0_0 a0_1 a0_2 a0_3 a0_4 a0_5 a0_6 a0_7 a0_8 a0_9 a0_10 a0_11 a0_12 a0_13 a0_14 a0_15 a1 a2).bind fun bt240 => ((carouselref16_Far.f k bt219.1 bt219.2.1 bt219.2.2.1 bt219.2.2.2.1 bt219.2.2.2.2.1 bt219.2.2.2.2.2.1 bt219.2.2.2.2.2.2.1 bt219.2.2.2.2.2.2.2.1 bt219.2.2.2.2.2.2.2.2.1 bt219.2.2.2.2.2.2.2.2.2.1 bt219.2.2.2.2.2.2.2.2.2.2.1 bt219.2.2.2.2.2.2.2.2.2.2.2.1 bt219.2.2.2.2.2.2.2.2.2.2.2.2.1 bt219.2.2.2.2.2.2.2.2.2.2.2.2.2.1 bt219.2.2.2.2.2.2.2.2.2.2.2.2.2.2.1 bt219.2.2.2.2.2.2.2.2.2.2.2.2.2.2.2 a1 a2).bind fun bt242 => ((carousellaw16_Awake.f k).bind fun z34 => (if z34 = true then ((plan_Plan_Node.f k a0_0 a0_1 a0_2 a0_3 a0_4 a0_5 a0_6 a0_7 a0_8 a0_9 a0_10 a0_11 a0_12 a0_13 a0_14 a0_15 a1).bind fun z0o => ((carouselref16_Node.f k bt219.1 bt219.2.1 bt219.2.2.1 bt219.2.2.2.1 bt219.2.2.2.2.1 bt219.2.2.2.2.2.1 bt219.2.2.2.2.2.2.1 bt219.2.2.2.2.2.2.2.1 bt219.2.2.2.2.2.2.2.2.1 bt219.2.2.2.2.2.2.2.2.2.1 bt219.2.2.2.2.2.2.2.2.2.2.1 bt219.2.2.2.2.2.2.2.2.2.2.2.1 bt219.2.2.2.2.2.2.2.2.2.2.2.2.1 bt219.2.2.2.2.2.2.2.2.2.2.2.2.2.1 bt219.2.2.2.2.2.2.2.2.2.2.2.2.2.2.1 bt219.2.2.2.2.2.2.2.2.2.2.2.2.2.2.2 a1).bind fun z0p => (if z0o = z0p then ((plan_Plan_Host.f k a0_0 a0_1 a0_2 a0_3 a0_4 a0_5 a0_6 a0_7 a0_8 a0_9 a0_10 a0_11 a0_12 a0_13 a0_14 a0_15 a1).bind fun z0q => ((carouselref16_Host.f k bt219.1 bt219.2.1 bt219.2.2.1 bt219.2.2.2.1 bt219.2.2.2.2.1 bt219.2.2.2.2.2.1 bt219.2.2.2.2.2.2.1 bt219.2.2.2.2.2.2.2.1 bt219.2.2.2.2.2.2.2.2.1 bt219.2.2.2.2.2.2.2.2.2.1 bt219.2.2.2.2.2.2.2.2.2.2.1 bt219.2.2.2.2.2.2.2.2.2.2.2.1 bt219.2.2.2.2.2.2.2.2.2.2.2.2.1 bt219.2.2.2.2.2.2.2.2.2.2.2.2.2.1 bt219.2.2.2.2.2.2.2.2.2.2.2.2.2.2.1 bt219.2.2.2.2.2.2.2.2.2.2.2.2.2.2.2 a1).bind fun z0r => (if z0q = z0r then (if bt236.1 = bt238.1 then (if bt236.2 = bt238.2 then (if bt240.1 = bt242.1 then (if bt240.2 = bt242.2 then ((plan_Plan_End.f k a0_0 a0_1 a0_2 a0_3 a0_4 a0_5 a0_6 a0_7 a0_8 a0_9 a0_10 a0_11 a0_12 a0_13 a0_14 a0_15 a1 a2).bind fun z0s => ((carouselref16_End.f k bt219.1 bt219.2.1 bt219.2.2.1 bt219.2.2.2.1 bt219.2.2.2.2.1 bt219.2.2.2.2.2.1 bt219.2.2.2.2.2.2.1 bt219.2.2.2.2.2.2.2.1 bt219.2.2.2.2.2.2.2.2.1 bt219.2.2.2.2.2.2.2.2.2.1 bt219.2.2.2.2.2.2.2.2.2.2.1 bt219.2.2.2.2.2.2.2.2.2.2.2.1 bt219.2.2.2.2.2.2.2.2.2.2.2.2.1 bt219.2.2.2.2.2.2.2.2.2.2.2.2.2.1 bt219.2.2.2.2.2.2.2.2.2.2.2.2.2.2.1 bt219.2.2.2.2.2.2.2.2.2.2.2.2.2.2.2 a1 a2).bind fun z0t => (if z0s = z0t then ((plan_Plan_Group.f a0_0 a0_1 a0_2 a0_3 a0_4 a0_5 a0_6 a0_7 a0_8 a0_9 a0_10 a0_11 a0_12 a0_13 a0_14 a0_15).bind fun z12 => ((carouselref16_Group.f).bind fun z13 => (some (z12.toList == z13.toList)))) else (some false)))) else (some false)) else (some false)) else (some false)) else (some false)) else (some false)))) else (some false)))) else (some false)))))))) = some r:=h;clear h;replace H:=Option.bind_eq_some_iff.mp H;obtain ⟨⟨z05,z06,z07,z08,z09,z0a,z0b,z0d,z0e,z0f,z0g,z0h,z0i,z0j,z0k,z0m⟩,A40,H⟩:=H;try dsimp only at H
 have A4:=zM A40;clear A40;replace H:=Option.bind_eq_some_iff.mp H;obtain ⟨⟨z0u,z0v⟩,A50,H⟩:=H;try dsimp only at H
 have A5:=zM A50;clear A50;replace H:=Option.bind_eq_some_iff.mp H;obtain ⟨⟨z0w,z0x⟩,A60,H⟩:=H;try dsimp only at H
 have A6:=zM A60;clear A60;replace H:=Option.bind_eq_some_iff.mp H;obtain ⟨⟨z0y,z0z⟩,A70,H⟩:=H;try dsimp only at H
 have A7:=zM A70;clear A70;replace H:=Option.bind_eq_some_iff.mp H;obtain ⟨⟨z10,z11⟩,A80,H⟩:=H;try dsimp only at H
 have A8:=zM A80;clear A80;replace H:=Option.bind_eq_some_iff.mp H;obtain ⟨z34,A90,H⟩:=H;try dsimp only at H
 have A9:=zM A90;clear A90;by_cases c10 : z34 = true
 ·
  subst c10;have H1 : ((plan_Plan_Node.f k a0_0 a0_1 a0_2 a0_3 a0_4 a0_5 a0_6 a0_7 a0_8 a0_9 a0_10 a0_11 a0_12 a0_13 a0_14 a0_15 a1).bind fun z0o => ((carouselref16_Node.f k z05 z06 z07 z08 z09 z0a z0b z0d z0e z0f z0g z0h z0i z0j z0k z0m a1).bind fun z0p => (if z0o = z0p then ((plan_Plan_Host.f k a0_0 a0_1 a0_2 a0_3 a0_4 a0_5 a0_6 a0_7 a0_8 a0_9 a0_10 a0_11 a0_12 a0_13 a0_14 a0_15 a1).bind fun z0q => ((carouselref16_Host.f k z05 z06 z07 z08 z09 z0a z0b z0d z0e z0f z0g z0h z0i z0j z0k z0m a1).bind fun z0r => (if z0q = z0r then (if z0u = z0w then (if z0v = z0x then (if z0y = z10 then (if z0z = z11 then ((plan_Plan_End.f k a0_0 a0_1 a0_2 a0_3 a0_4 a0_5 a0_6 a0_7 a0_8 a0_9 a0_10 a0_11 a0_12 a0_13 a0_14 a0_15 a1 a2).bind fun z0s => ((carouselref16_End.f k z05 z06 z07 z08 z09 z0a z0b z0d z0e z0f z0g z0h z0i z0j z0k z0m a1 a2).bind fun z0t => (if z0s = z0t then ((plan_Plan_Group.f a0_0 a0_1 a0_2 a0_3 a0_4 a0_5 a0_6 a0_7 a0_8 a0_9 a0_10 a0_11 a0_12 a0_13 a0_14 a0_15).bind fun z12 => ((carouselref16_Group.f).bind fun z13 => (some (z12.toList == z13.toList)))) else (some false)))) else (some false)) else (some false)) else (some false)) else (some false)) else (some false)))) else (some false)))) = some r:=by rw [if_pos rfl] at H;exact H
  clear H;have H:=H1;clear H1;replace H:=Option.bind_eq_some_iff.mp H;obtain ⟨z0o,A110,H⟩:=H;try dsimp only at H
  have A11:=zM A110;clear A110;replace H:=Option.bind_eq_some_iff.mp H;obtain ⟨z0p,A120,H⟩:=H;try dsimp only at H
  have A12:=zM A120;clear A120;by_cases c13 : z0o = z0p
  ·
   rw [if_pos c13] at H;have c13b0 : (z0o == z0p) = true:=beq_iff_eq.mpr c13;have c13b1 : (z0o != z0p) = false:=bne_eq_false_iff_eq.mpr c13;clear c13;replace H:=Option.bind_eq_some_iff.mp H;obtain ⟨z0q,A140,H⟩:=H;try dsimp only at H
   have A14:=zM A140;clear A140;replace H:=Option.bind_eq_some_iff.mp H;obtain ⟨z0r,A150,H⟩:=H;try dsimp only at H
   have A15:=zM A150;clear A150;by_cases c16 : z0q = z0r
   ·
    rw [if_pos c16] at H;have c16b0 : (z0q == z0r) = true:=beq_iff_eq.mpr c16;have c16b1 : (z0q != z0r) = false:=bne_eq_false_iff_eq.mpr c16;clear c16;by_cases c17 : z0u = z0w
    ·
     rw [if_pos c17] at H;have c17b0 : (z0u == z0w) = true:=beq_iff_eq.mpr c17;have c17b1 : (z0u != z0w) = false:=bne_eq_false_iff_eq.mpr c17;clear c17;by_cases c18 : z0v = z0x
     ·
      rw [if_pos c18] at H;have c18b0 : (z0v == z0x) = true:=beq_iff_eq.mpr c18;have c18b1 : (z0v != z0x) = false:=bne_eq_false_iff_eq.mpr c18;clear c18;by_cases c19 : z0y = z10
      ·
       rw [if_pos c19] at H;have c19b0 : (z0y == z10) = true:=beq_iff_eq.mpr c19;have c19b1 : (z0y != z10) = false:=bne_eq_false_iff_eq.mpr c19;clear c19;by_cases c20 : z0z = z11
       ·
        rw [if_pos c20] at H;have c20b0 : (z0z == z11) = true:=beq_iff_eq.mpr c20;have c20b1 : (z0z != z11) = false:=bne_eq_false_iff_eq.mpr c20;clear c20;replace H:=Option.bind_eq_some_iff.mp H;obtain ⟨z0s,A210,H⟩:=H;try dsimp only at H
        have A21:=zM A210;clear A210;replace H:=Option.bind_eq_some_iff.mp H;obtain ⟨z0t,A220,H⟩:=H;try dsimp only at H
        have A22:=zM A220;clear A220;by_cases c23 : z0s = z0t
        ·
         rw [if_pos c23] at H;have c23b0 : (z0s == z0t) = true:=beq_iff_eq.mpr c23;have c23b1 : (z0s != z0t) = false:=bne_eq_false_iff_eq.mpr c23;clear c23;replace H:=Option.bind_eq_some_iff.mp H;obtain ⟨z12,A240,H⟩:=H;try dsimp only at H
         have A24:=zM A240;clear A240;replace H:=Option.bind_eq_some_iff.mp H;obtain ⟨z13,A250,H⟩:=H;try dsimp only at H
         have A25:=zM A250;clear A250;obtain rfl:=Option.some.inj H;go_enter Try.func3,Try.ntmps3
         go_wp2_with fail
         refine pt_W (fun W1 hW1 => ?_)
         have hp1 := blk_new w (.cells #[.int .i64 a0_0,.int .i64 a0_1,.int .u8 a0_2,.int .u16 a0_3,.int .u16 a0_4,.int .i64 a0_5,.int .i64 a0_6,.int .i64 a0_7,.int .i64 a0_8,.int .i64 a0_9,.int .i64 a0_10,.int .i64 a0_11,.int .i64 a0_12,.int .i64 a0_13,.int .i64 a0_14,.bool a0_15] 24)
         have hb1 : Below w.heap.size w W1 := by rw [hW1]; exact below_alloc (Below.refl _ _) _
         rw [← hW1] at hp1
         clear hW1
         refine (carousellaw16_Of.calls a0_0 a0_1 a0_2 a0_3 a0_4 a0_5 a0_6 a0_7 a0_8 a0_9 a0_10 a0_11 a0_12 a0_13 a0_14 a0_15 z05 z06 z07 z08 z09 z0a z0b z0d z0e z0f z0g z0h z0i z0j z0k z0m _ A4.out).mono ?_
         rintro e w2 ⟨rfl,hb⟩
         have hp2 := blk_below hp1 hb
         have hb2 := pt_call hb1 hb
         clear hb hp1 hb1
         as_aux_lemma =>
          have p0 : w2.cell? ⟨w.heap.size,0,none⟩ = some (.int .i64 a0_0) := (blk_cell hp2 0).trans rfl
          have p1 : w2.cell? ⟨w.heap.size,1,none⟩ = some (.int .i64 a0_1) := (blk_cell hp2 1).trans rfl
          have p2 : w2.cell? ⟨w.heap.size,2,none⟩ = some (.int .u8 a0_2) := (blk_cell hp2 2).trans rfl
          have p3 : w2.cell? ⟨w.heap.size,3,none⟩ = some (.int .u16 a0_3) := (blk_cell hp2 3).trans rfl
          have p4 : w2.cell? ⟨w.heap.size,4,none⟩ = some (.int .u16 a0_4) := (blk_cell hp2 4).trans rfl
          have p5 : w2.cell? ⟨w.heap.size,5,none⟩ = some (.int .i64 a0_5) := (blk_cell hp2 5).trans rfl
          have p6 : w2.cell? ⟨w.heap.size,6,none⟩ = some (.int .i64 a0_6) := (blk_cell hp2 6).trans rfl
          have p7 : w2.cell? ⟨w.heap.size,7,none⟩ = some (.int .i64 a0_7) := (blk_cell hp2 7).trans rfl
          have p8 : w2.cell? ⟨w.heap.size,8,none⟩ = some (.int .i64 a0_8) := (blk_cell hp2 8).trans rfl
          have p9 : w2.cell? ⟨w.heap.size,9,none⟩ = some (.int .i64 a0_9) := (blk_cell hp2 9).trans rfl
          have p10 : w2.cell? ⟨w.heap.size,10,none⟩ = some (.int .i64 a0_10) := (blk_cell hp2 10).trans rfl
          have p11 : w2.cell? ⟨w.heap.size,11,none⟩ = some (.int .i64 a0_11) := (blk_cell hp2 11).trans rfl
          have p12 : w2.cell? ⟨w.heap.size,12,none⟩ = some (.int .i64 a0_12) := (blk_cell hp2 12).trans rfl
          have p13 : w2.cell? ⟨w.heap.size,13,none⟩ = some (.int .i64 a0_13) := (blk_cell hp2 13).trans rfl
          have p14 : w2.cell? ⟨w.heap.size,14,none⟩ = some (.int .i64 a0_14) := (blk_cell hp2 14).trans rfl
          have p15 : w2.cell? ⟨w.heap.size,15,none⟩ = some (.bool a0_15) := (blk_cell hp2 15).trans rfl
          have hlt2 := blk_lt hp2
          go_wp2_with fail
          refine pt_W (fun W3 hW3 => ?_)
          have hm3 := blk_new w2 (.cells #[.int .i64 z05,.int .i64 z06,.int .u8 z07,.int .u16 z08,.int .u16 z09,.int .i64 z0a,.int .i64 z0b,.int .i64 z0d,.int .i64 z0e,.int .i64 z0f,.int .i64 z0g,.int .i64 z0h,.int .i64 z0i,.int .i64 z0j,.int .i64 z0k,.bool z0m] 25)
          have hb3 : Below w2.heap.size w2 W3 := by rw [hW3]; exact below_alloc (Below.refl _ _) _
          rw [← hW3] at hm3
          clear hW3
          have hp3 := blk_below hp2 hb3
          have hB3 := pt_call hb2 hb3
          clear p0 p1 p2 p3 p4 p5 p6 p7 p8 p9 p10 p11 p12 p13 p14 p15
          as_aux_lemma =>
           refine (plan_Plan_Role.calls k a0_0 a0_1 a0_2 a0_3 a0_4 a0_5 a0_6 a0_7 a0_8 a0_9 a0_10 a0_11 a0_12 a0_13 a0_14 a0_15 a1 z0u z0v _ A5.out).mono ?_
           rintro e w33 ⟨rfl,hb⟩
           have hp33 := blk_below hp3 hb
           have hm33 := blk_below hm3 hb
           have hB33 := pt_call hB3 hb
           clear hb hp3 hm3 hB3
           as_aux_lemma =>
            have q0 : w33.cell? ⟨w2.heap.size,0,none⟩ = some (.int .i64 z05) := (blk_cell hm33 0).trans rfl
            have q1 : w33.cell? ⟨w2.heap.size,1,none⟩ = some (.int .i64 z06) := (blk_cell hm33 1).trans rfl
            have q2 : w33.cell? ⟨w2.heap.size,2,none⟩ = some (.int .u8 z07) := (blk_cell hm33 2).trans rfl
            have q3 : w33.cell? ⟨w2.heap.size,3,none⟩ = some (.int .u16 z08) := (blk_cell hm33 3).trans rfl
            have q4 : w33.cell? ⟨w2.heap.size,4,none⟩ = some (.int .u16 z09) := (blk_cell hm33 4).trans rfl
            have q5 : w33.cell? ⟨w2.heap.size,5,none⟩ = some (.int .i64 z0a) := (blk_cell hm33 5).trans rfl
            have q6 : w33.cell? ⟨w2.heap.size,6,none⟩ = some (.int .i64 z0b) := (blk_cell hm33 6).trans rfl
            have q7 : w33.cell? ⟨w2.heap.size,7,none⟩ = some (.int .i64 z0d) := (blk_cell hm33 7).trans rfl
            have q8 : w33.cell? ⟨w2.heap.size,8,none⟩ = some (.int .i64 z0e) := (blk_cell hm33 8).trans rfl
            have q9 : w33.cell? ⟨w2.heap.size,9,none⟩ = some (.int .i64 z0f) := (blk_cell hm33 9).trans rfl
            have q10 : w33.cell? ⟨w2.heap.size,10,none⟩ = some (.int .i64 z0g) := (blk_cell hm33 10).trans rfl
            have q11 : w33.cell? ⟨w2.heap.size,11,none⟩ = some (.int .i64 z0h) := (blk_cell hm33 11).trans rfl
            have q12 : w33.cell? ⟨w2.heap.size,12,none⟩ = some (.int .i64 z0i) := (blk_cell hm33 12).trans rfl
            have q13 : w33.cell? ⟨w2.heap.size,13,none⟩ = some (.int .i64 z0j) := (blk_cell hm33 13).trans rfl
            have q14 : w33.cell? ⟨w2.heap.size,14,none⟩ = some (.int .i64 z0k) := (blk_cell hm33 14).trans rfl
            have q15 : w33.cell? ⟨w2.heap.size,15,none⟩ = some (.bool z0m) := (blk_cell hm33 15).trans rfl
            go_wp2_with fail
            clear q0 q1 q2 q3 q4 q5 q6 q7 q8 q9 q10 q11 q12 q13 q14 q15
            refine (carouselref16_Role.calls k z05 z06 z07 z08 z09 z0a z0b z0d z0e z0f z0g z0h z0i z0j z0k z0m a1 z0w z0x _ A6.out).mono ?_
            rintro e w35 ⟨rfl,hb⟩
            as_aux_lemma =>
             have hp35 := blk_below hp33 hb
             have hm35 := blk_below hm33 hb
             have hB35 := pt_call hB33 hb
             clear hb hp33 hm33 hB33
             as_aux_lemma =>
              have q0 : w35.cell? ⟨w.heap.size,0,none⟩ = some (.int .i64 a0_0) := (blk_cell hp35 0).trans rfl
              have q1 : w35.cell? ⟨w.heap.size,1,none⟩ = some (.int .i64 a0_1) := (blk_cell hp35 1).trans rfl
              have q2 : w35.cell? ⟨w.heap.size,2,none⟩ = some (.int .u8 a0_2) := (blk_cell hp35 2).trans rfl
              have q3 : w35.cell? ⟨w.heap.size,3,none⟩ = some (.int .u16 a0_3) := (blk_cell hp35 3).trans rfl
              have q4 : w35.cell? ⟨w.heap.size,4,none⟩ = some (.int .u16 a0_4) := (blk_cell hp35 4).trans rfl
              have q5 : w35.cell? ⟨w.heap.size,5,none⟩ = some (.int .i64 a0_5) := (blk_cell hp35 5).trans rfl
              have q6 : w35.cell? ⟨w.heap.size,6,none⟩ = some (.int .i64 a0_6) := (blk_cell hp35 6).trans rfl
              have q7 : w35.cell? ⟨w.heap.size,7,none⟩ = some (.int .i64 a0_7) := (blk_cell hp35 7).trans rfl
              have q8 : w35.cell? ⟨w.heap.size,8,none⟩ = some (.int .i64 a0_8) := (blk_cell hp35 8).trans rfl
              have q9 : w35.cell? ⟨w.heap.size,9,none⟩ = some (.int .i64 a0_9) := (blk_cell hp35 9).trans rfl
              have q10 : w35.cell? ⟨w.heap.size,10,none⟩ = some (.int .i64 a0_10) := (blk_cell hp35 10).trans rfl
              have q11 : w35.cell? ⟨w.heap.size,11,none⟩ = some (.int .i64 a0_11) := (blk_cell hp35 11).trans rfl
              have q12 : w35.cell? ⟨w.heap.size,12,none⟩ = some (.int .i64 a0_12) := (blk_cell hp35 12).trans rfl
              have q13 : w35.cell? ⟨w.heap.size,13,none⟩ = some (.int .i64 a0_13) := (blk_cell hp35 13).trans rfl
              have q14 : w35.cell? ⟨w.heap.size,14,none⟩ = some (.int .i64 a0_14) := (blk_cell hp35 14).trans rfl
              have q15 : w35.cell? ⟨w.heap.size,15,none⟩ = some (.bool a0_15) := (blk_cell hp35 15).trans rfl
              go_wp2_with fail
              clear q0 q1 q2 q3 q4 q5 q6 q7 q8 q9 q10 q11 q12 q13 q14 q15
              refine (plan_Plan_Far.calls k a0_0 a0_1 a0_2 a0_3 a0_4 a0_5 a0_6 a0_7 a0_8 a0_9 a0_10 a0_11 a0_12 a0_13 a0_14 a0_15 a1 a2 z0y z0z _ A7.out).mono ?_
              rintro e w37 ⟨rfl,hb⟩
              have hp37 := blk_below hp35 hb
              have hm37 := blk_below hm35 hb
              have hB37 := pt_call hB35 hb
              clear hb hp35 hm35 hB35
              as_aux_lemma =>
               have q0 : w37.cell? ⟨w2.heap.size,0,none⟩ = some (.int .i64 z05) := (blk_cell hm37 0).trans rfl
               have q1 : w37.cell? ⟨w2.heap.size,1,none⟩ = some (.int .i64 z06) := (blk_cell hm37 1).trans rfl
               have q2 : w37.cell? ⟨w2.heap.size,2,none⟩ = some (.int .u8 z07) := (blk_cell hm37 2).trans rfl
               have q3 : w37.cell? ⟨w2.heap.size,3,none⟩ = some (.int .u16 z08) := (blk_cell hm37 3).trans rfl
               have q4 : w37.cell? ⟨w2.heap.size,4,none⟩ = some (.int .u16 z09) := (blk_cell hm37 4).trans rfl
               have q5 : w37.cell? ⟨w2.heap.size,5,none⟩ = some (.int .i64 z0a) := (blk_cell hm37 5).trans rfl
               have q6 : w37.cell? ⟨w2.heap.size,6,none⟩ = some (.int .i64 z0b) := (blk_cell hm37 6).trans rfl
               have q7 : w37.cell? ⟨w2.heap.size,7,none⟩ = some (.int .i64 z0d) := (blk_cell hm37 7).trans rfl
               have q8 : w37.cell? ⟨w2.heap.size,8,none⟩ = some (.int .i64 z0e) := (blk_cell hm37 8).trans rfl
               have q9 : w37.cell? ⟨w2.heap.size,9,none⟩ = some (.int .i64 z0f) := (blk_cell hm37 9).trans rfl
               have q10 : w37.cell? ⟨w2.heap.size,10,none⟩ = some (.int .i64 z0g) := (blk_cell hm37 10).trans rfl
               have q11 : w37.cell? ⟨w2.heap.size,11,none⟩ = some (.int .i64 z0h) := (blk_cell hm37 11).trans rfl
               have q12 : w37.cell? ⟨w2.heap.size,12,none⟩ = some (.int .i64 z0i) := (blk_cell hm37 12).trans rfl
               have q13 : w37.cell? ⟨w2.heap.size,13,none⟩ = some (.int .i64 z0j) := (blk_cell hm37 13).trans rfl
               have q14 : w37.cell? ⟨w2.heap.size,14,none⟩ = some (.int .i64 z0k) := (blk_cell hm37 14).trans rfl
               have q15 : w37.cell? ⟨w2.heap.size,15,none⟩ = some (.bool z0m) := (blk_cell hm37 15).trans rfl
               go_wp2_with fail
               clear q0 q1 q2 q3 q4 q5 q6 q7 q8 q9 q10 q11 q12 q13 q14 q15
               refine (carouselref16_Far.calls k z05 z06 z07 z08 z09 z0a z0b z0d z0e z0f z0g z0h z0i z0j z0k z0m a1 a2 z10 z11 _ A8.out).mono ?_
               rintro e w39 ⟨rfl,hb⟩
               have hp39 := blk_below hp37 hb
               have hm39 := blk_below hm37 hb
               have hB39 := pt_call hB37 hb
               clear hb hp37 hm37 hB37
               as_aux_lemma =>
                go_wp2_with fail
                have z00 := zM hp39
                have z01 := zM hm39
                have HB := zM hB39
                have z0c := zM (Nat.le_refl w.heap.size)
                have z0l := zM (show w.heap.size ≤ w2.heap.size from hb2.size)
                have z02 := zM (show w.heap.size ≠ w2.heap.size from Nat.ne_of_lt hlt2)
                have z0n := zM (show w2.heap.size ≠ w.heap.size from Nat.ne_of_gt hlt2)
                clear hp39 hm39 hB39 hb2 hlt2 hb3 hp2
                as_aux_lemma =>
                 have n0_:=zM (zD z00.out);have n1_:=zM (zD z01.out);have n2_:=zM (yD HB.out);clear z00;clear z01;clear HB;have z00:=n0_;have z01:=n1_;have HB:=n2_;clear n0_ n1_ n2_;refine start_ (n:=57) (S:=fun w' => w'.cell? ⟨w.heap.size,0,none⟩ = some (.int .i64 a0_0) ∧ w'.cell? ⟨w.heap.size,1,none⟩ = some (.int .i64 a0_1) ∧ w'.cell? ⟨w.heap.size,2,none⟩ = some (.int .u8 a0_2) ∧ w'.cell? ⟨w.heap.size,3,none⟩ = some (.int .u16 a0_3) ∧ w'.cell? ⟨w.heap.size,4,none⟩ = some (.int .u16 a0_4) ∧ w'.cell? ⟨w.heap.size,5,none⟩ = some (.int .i64 a0_5) ∧ w'.cell? ⟨w.heap.size,6,none⟩ = some (.int .i64 a0_6) ∧ w'.cell? ⟨w.heap.size,7,none⟩ = some (.int .i64 a0_7) ∧ w'.cell? ⟨w.heap.size,8,none⟩ = some (.int .i64 a0_8) ∧ w'.cell? ⟨w.heap.size,9,none⟩ = some (.int .i64 a0_9) ∧ w'.cell? ⟨w.heap.size,10,none⟩ = some (.int .i64 a0_10) ∧ w'.cell? ⟨w.heap.size,11,none⟩ = some (.int .i64 a0_11) ∧ w'.cell? ⟨w.heap.size,12,none⟩ = some (.int .i64 a0_12) ∧ w'.cell? ⟨w.heap.size,13,none⟩ = some (.int .i64 a0_13) ∧ w'.cell? ⟨w.heap.size,14,none⟩ = some (.int .i64 a0_14) ∧ w'.cell? ⟨w.heap.size,15,none⟩ = some (.bool a0_15) ∧ w'.cell? ⟨w2.heap.size,0,none⟩ = some (.int .i64 z05) ∧ w'.cell? ⟨w2.heap.size,1,none⟩ = some (.int .i64 z06) ∧ w'.cell? ⟨w2.heap.size,2,none⟩ = some (.int .u8 z07) ∧ w'.cell? ⟨w2.heap.size,3,none⟩ = some (.int .u16 z08) ∧ w'.cell? ⟨w2.heap.size,4,none⟩ = some (.int .u16 z09) ∧ w'.cell? ⟨w2.heap.size,5,none⟩ = some (.int .i64 z0a) ∧ w'.cell? ⟨w2.heap.size,6,none⟩ = some (.int .i64 z0b) ∧ w'.cell? ⟨w2.heap.size,7,none⟩ = some (.int .i64 z0d) ∧ w'.cell? ⟨w2.heap.size,8,none⟩ = some (.int .i64 z0e) ∧ w'.cell? ⟨w2.heap.size,9,none⟩ = some (.int .i64 z0f) ∧ w'.cell? ⟨w2.heap.size,10,none⟩ = some (.int .i64 z0g) ∧ w'.cell? ⟨w2.heap.size,11,none⟩ = some (.int .i64 z0h) ∧ w'.cell? ⟨w2.heap.size,12,none⟩ = some (.int .i64 z0i) ∧ w'.cell? ⟨w2.heap.size,13,none⟩ = some (.int .i64 z0j) ∧ w'.cell? ⟨w2.heap.size,14,none⟩ = some (.int .i64 z0k) ∧ w'.cell? ⟨w2.heap.size,15,none⟩ = some (.bool z0m)) (ds:=[]) #[false,false,false,false,false,false,false,false,false,false,false,false,false,false,false,false,false,false,false,false,false,false,false,false,false,false,false,false,false,false,false,false,false,false,false,false,false,false,false,false,false,false,false,false,false,false,false,false,false,false,false,false,false,false,false,false,false] (by kernel_rfl) rfl rfl ⟨(zC z00.out 0).trans rfl,(zC z00.out 1).trans rfl,(zC z00.out 2).trans rfl,(zC z00.out 3).trans rfl,(zC z00.out 4).trans rfl,(zC z00.out 5).trans rfl,(zC z00.out 6).trans rfl,(zC z00.out 7).trans rfl,(zC z00.out 8).trans rfl,(zC z00.out 9).trans rfl,(zC z00.out 10).trans rfl,(zC z00.out 11).trans rfl,(zC z00.out 12).trans rfl,(zC z00.out 13).trans rfl,(zC z00.out 14).trans rfl,(zC z00.out 15).trans rfl,(zC z01.out 0).trans rfl,(zC z01.out 1).trans rfl,(zC z01.out 2).trans rfl,(zC z01.out 3).trans rfl,(zC z01.out 4).trans rfl,(zC z01.out 5).trans rfl,(zC z01.out 6).trans rfl,(zC z01.out 7).trans rfl,(zC z01.out 8).trans rfl,(zC z01.out 9).trans rfl,(zC z01.out 10).trans rfl,(zC z01.out 11).trans rfl,(zC z01.out 12).trans rfl,(zC z01.out 13).trans rfl,(zC z01.out 14).trans rfl,(zC z01.out 15).trans rfl⟩ (fun hHeld => ?_);refine with_tabW carousellaw16_PlanTells.tab6 carousellaw16_PlanTells.bits6 (fun HT_ HW_ => ?_);generalize w39.drew = w40 at z00 z01 HB hHeld ⊢
                 refine one_ (i:=0) (N:=some 44) #[true,false,false,false,false,false,false,false,false,false,false,false,false,false,false,false,false,false,false,false,false,false,false,false,false,false,false,false,false,false,false,false,false,false,false,false,false,false,false,false,false,false,false,false,false,false,false,false,false,false,false,false,false,false,false,false,false] rfl rfl (one_of HT_.out (by kernel_rfl)) (by decide) (fun K hK => ?_);refine goes_ Try.func12 (by kernel_rfl) rfl #[] (by rfl) rfl rfl (by (try simp only [List.map_toArray,List.map_cons,List.map_nil]);first|done|rfl|(simp only [List.length_drop,List.length_take];rfl)) ?_;with_reducible refine (carousellaw16_Awake.calls k  true _ A9.out).mono ?_
                 rintro e w41 ⟨rfl,hb⟩
                 as_aux_lemma =>
                  refine ⟨_,rfl,?_⟩;have n0_:=zM (zB (g:=w.heap.size) (o:=.cells #[.int .i64 a0_0,.int .i64 a0_1,.int .u8 a0_2,.int .u16 a0_3,.int .u16 a0_4,.int .i64 a0_5,.int .i64 a0_6,.int .i64 a0_7,.int .i64 a0_8,.int .i64 a0_9,.int .i64 a0_10,.int .i64 a0_11,.int .i64 a0_12,.int .i64 a0_13,.int .i64 a0_14,.bool a0_15] 24 (0,0)) (by (with_reducible repeat first|apply zN|apply zD|apply zA);exact z00.out) hb);have n1_:=zM (zB (g:=w2.heap.size) (o:=.cells #[.int .i64 z05,.int .i64 z06,.int .u8 z07,.int .u16 z08,.int .u16 z09,.int .i64 z0a,.int .i64 z0b,.int .i64 z0d,.int .i64 z0e,.int .i64 z0f,.int .i64 z0g,.int .i64 z0h,.int .i64 z0i,.int .i64 z0j,.int .i64 z0k,.bool z0m] 25 (0,0)) (by (with_reducible repeat first|apply zN|apply zD|apply zA);exact z01.out) hb);have n2_:=zM (yT (by repeat (first|(with_reducible first|exact HB.out|apply yA|apply yN|apply yD|refine yS ?_ z0c.out|refine yS ?_ z0l.out)|exact HB.out)) hb);clear z00;clear z01;clear HB;have z00:=n0_;have z01:=n1_;have HB:=n2_;clear n0_ n1_ n2_;(try clear hb)
                  (try clear hb2)
                  (try clear hk)
                  (try clear hi)
                  refine hK.out _ _ ⟨(zC z00.out 0).trans rfl,(zC z00.out 1).trans rfl,(zC z00.out 2).trans rfl,(zC z00.out 3).trans rfl,(zC z00.out 4).trans rfl,(zC z00.out 5).trans rfl,(zC z00.out 6).trans rfl,(zC z00.out 7).trans rfl,(zC z00.out 8).trans rfl,(zC z00.out 9).trans rfl,(zC z00.out 10).trans rfl,(zC z00.out 11).trans rfl,(zC z00.out 12).trans rfl,(zC z00.out 13).trans rfl,(zC z00.out 14).trans rfl,(zC z00.out 15).trans rfl,(zC z01.out 0).trans rfl,(zC z01.out 1).trans rfl,(zC z01.out 2).trans rfl,(zC z01.out 3).trans rfl,(zC z01.out 4).trans rfl,(zC z01.out 5).trans rfl,(zC z01.out 6).trans rfl,(zC z01.out 7).trans rfl,(zC z01.out 8).trans rfl,(zC z01.out 9).trans rfl,(zC z01.out 10).trans rfl,(zC z01.out 11).trans rfl,(zC z01.out 12).trans rfl,(zC z01.out 13).trans rfl,(zC z01.out 14).trans rfl,(zC z01.out 15).trans rfl⟩ (fun hHeld => ?_);clear hK K;refine norm_ (a':=?_) ?_ ?_;rotate_left
                  ·
                   show Act.put _ (some 44) _ = _
                   simp only [Act.put,sA,sB,sC,i64_w,i32_w];rfl
                  refine pure_ (i:=1) (N:=some 45) (v:=?_) (a':=?_) #[true,true,false,false,false,false,false,false,false,false,false,false,false,false,false,false,false,false,false,false,false,false,false,false,false,false,false,false,false,false,false,false,false,false,false,false,false,false,false,false,false,false,false,false,false,false,false,false,false,false,false,false,false,false,false,false,false] rfl rfl (any_of HT_.out (by kernel_rfl)) (fun _ _ _ h => h) (Or.inl ⟨by rfl,?_⟩) ?_ ?_;rotate_left
                  ·
                   intro w';go_simp;with_reducible rfl
                  rotate_left
                  ·
                   simp only [Act.put,sA,sB,sC,i64_w,i32_w];rfl
                  refine pure_ (i:=3) (N:=some 47) (v:=?_) (a':=?_) #[true,true,false,true,false,false,false,false,false,false,false,false,false,false,false,false,false,false,false,false,false,false,false,false,false,false,false,false,false,false,false,false,false,false,false,false,false,false,false,false,false,false,false,false,false,false,false,false,false,false,false,false,false,false,false,false,false] rfl rfl (any_of HT_.out (by kernel_rfl)) (fun _ _ _ h => h) (Or.inl ⟨by rfl,?_⟩) ?_ ?_;rotate_left
                  ·
                   intro w';go_simp;with_reducible rfl
                  rotate_left
                  ·
                   simp only [Act.put,sA,sB,sC,i64_w,i32_w];rfl
                  refine pure_ (i:=6) (N:=some 50) (v:=?_) (a':=?_) #[true,true,false,true,false,false,true,false,false,false,false,false,false,false,false,false,false,false,false,false,false,false,false,false,false,false,false,false,false,false,false,false,false,false,false,false,false,false,false,false,false,false,false,false,false,false,false,false,false,false,false,false,false,false,false,false,false] rfl rfl (any_of HT_.out (by kernel_rfl)) (fun _ _ _ h => h) (Or.inl ⟨by rfl,?_⟩) ?_ ?_;rotate_left
                  ·
                   intro w';go_simp;with_reducible rfl
                  rotate_left
                  ·
                   simp only [Act.put,sA,sB,sC,i64_w,i32_w];rfl
                  refine take_ (i:=2) (N:=some 46) (v:=?_) (a':=?_) #[true,true,true,true,false,false,true,false,false,false,false,false,false,false,false,false,false,false,false,false,false,false,false,false,false,false,false,false,false,false,false,false,false,false,false,false,false,false,false,false,false,false,false,false,false,false,false,false,false,false,false,false,false,false,false,false,false] rfl rfl (take_ofW HT_.out HW_.out (by kernel_rfl)) (fun _ _ _ h => h) (Or.inl ⟨by rfl,?_⟩) hHeld ?_ ?_;rotate_left
                  ·
                   rintro w' ⟨s0,s1,s2,s3,s4,s5,s6,s7,s8,s9,s10,s11,s12,s13,s14,s15,s16,s17,s18,s19,s20,s21,s22,s23,s24,s25,s26,s27,s28,s29,s30,s31⟩
                   go_simp;with_reducible rfl
                  rotate_left
                  ·
                   simp only [Act.put,sA,sB,sC,i64_w,i32_w];rfl
                  refine take_ (i:=5) (N:=some 49) (v:=?_) (a':=?_) #[true,true,true,true,false,true,true,false,false,false,false,false,false,false,false,false,false,false,false,false,false,false,false,false,false,false,false,false,false,false,false,false,false,false,false,false,false,false,false,false,false,false,false,false,false,false,false,false,false,false,false,false,false,false,false,false,false] rfl rfl (take_ofW HT_.out HW_.out (by kernel_rfl)) (fun _ _ _ h => h) (Or.inl ⟨by rfl,?_⟩) hHeld ?_ ?_;rotate_left
                  ·
                   rintro w' ⟨s0,s1,s2,s3,s4,s5,s6,s7,s8,s9,s10,s11,s12,s13,s14,s15,s16,s17,s18,s19,s20,s21,s22,s23,s24,s25,s26,s27,s28,s29,s30,s31⟩
                   go_simp;with_reducible rfl
                  rotate_left
                  ·
                   simp only [Act.put,sA,sB,sC,i64_w,i32_w];rfl
                  refine one_ (i:=4) (N:=some 48) #[true,true,true,true,true,true,true,false,false,false,false,false,false,false,false,false,false,false,false,false,false,false,false,false,false,false,false,false,false,false,false,false,false,false,false,false,false,false,false,false,false,false,false,false,false,false,false,false,false,false,false,false,false,false,false,false,false] rfl rfl (one_of HT_.out (by kernel_rfl)) (by decide) (fun K hK => ?_);refine goes_ Try.func13 (by kernel_rfl) rfl #[.agg #[.int .i64 a0_0,.int .i64 a0_1,.int .u8 a0_2,.int .u16 a0_3,.int .u16 a0_4,.int .i64 a0_5,.int .i64 a0_6,.int .i64 a0_7,.int .i64 a0_8,.int .i64 a0_9,.int .i64 a0_10,.int .i64 a0_11,.int .i64 a0_12,.int .i64 a0_13,.int .i64 a0_14,.bool a0_15],.int .i64 a1] (by rfl) rfl rfl (by (try simp only [List.map_toArray,List.map_cons,List.map_nil]);first|done|rfl|(simp only [List.length_drop,List.length_take];rfl)) ?_;with_reducible refine (plan_Plan_Node.calls k a0_0 a0_1 a0_2 a0_3 a0_4 a0_5 a0_6 a0_7 a0_8 a0_9 a0_10 a0_11 a0_12 a0_13 a0_14 a0_15 a1 z0o _ A11.out).mono ?_
                  rintro e w42 ⟨rfl,hb⟩
                  refine ⟨_,rfl,?_⟩;have n0_:=zM (zB (g:=w.heap.size) (o:=.cells #[.int .i64 a0_0,.int .i64 a0_1,.int .u8 a0_2,.int .u16 a0_3,.int .u16 a0_4,.int .i64 a0_5,.int .i64 a0_6,.int .i64 a0_7,.int .i64 a0_8,.int .i64 a0_9,.int .i64 a0_10,.int .i64 a0_11,.int .i64 a0_12,.int .i64 a0_13,.int .i64 a0_14,.bool a0_15] 24 (0,0)) (by (with_reducible repeat first|apply zN|apply zD|apply zA);exact z00.out) hb);have n1_:=zM (zB (g:=w2.heap.size) (o:=.cells #[.int .i64 z05,.int .i64 z06,.int .u8 z07,.int .u16 z08,.int .u16 z09,.int .i64 z0a,.int .i64 z0b,.int .i64 z0d,.int .i64 z0e,.int .i64 z0f,.int .i64 z0g,.int .i64 z0h,.int .i64 z0i,.int .i64 z0j,.int .i64 z0k,.bool z0m] 25 (0,0)) (by (with_reducible repeat first|apply zN|apply zD|apply zA);exact z01.out) hb);have n2_:=zM (yT (by repeat (first|(with_reducible first|exact HB.out|apply yA|apply yN|apply yD|refine yS ?_ z0c.out|refine yS ?_ z0l.out)|exact HB.out)) hb);clear z00;clear z01;clear HB;have z00:=n0_;have z01:=n1_;have HB:=n2_;clear n0_ n1_ n2_;(try clear hb)
                  (try clear hb2)
                  (try clear hk)
                  (try clear hi)
                  refine hK.out _ _ ⟨(zC z00.out 0).trans rfl,(zC z00.out 1).trans rfl,(zC z00.out 2).trans rfl,(zC z00.out 3).trans rfl,(zC z00.out 4).trans rfl,(zC z00.out 5).trans rfl,(zC z00.out 6).trans rfl,(zC z00.out 7).trans rfl,(zC z00.out 8).trans rfl,(zC z00.out 9).trans rfl,(zC z00.out 10).trans rfl,(zC z00.out 11).trans rfl,(zC z00.out 12).trans rfl,(zC z00.out 13).trans rfl,(zC z00.out 14).trans rfl,(zC z00.out 15).trans rfl,(zC z01.out 0).trans rfl,(zC z01.out 1).trans rfl,(zC z01.out 2).trans rfl,(zC z01.out 3).trans rfl,(zC z01.out 4).trans rfl,(zC z01.out 5).trans rfl,(zC z01.out 6).trans rfl,(zC z01.out 7).trans rfl,(zC z01.out 8).trans rfl,(zC z01.out 9).trans rfl,(zC z01.out 10).trans rfl,(zC z01.out 11).trans rfl,(zC z01.out 12).trans rfl,(zC z01.out 13).trans rfl,(zC z01.out 14).trans rfl,(zC z01.out 15).trans rfl⟩ (fun hHeld => ?_);clear hK K;refine norm_ (a':=?_) ?_ ?_;rotate_left
                  ·
                   show Act.put _ (some 48) _ = _
                   simp only [Act.put,sA,sB,sC,i64_w,i32_w];rfl
                  refine one_ (i:=7) (N:=some 51) #[true,true,true,true,true,true,true,true,false,false,false,false,false,false,false,false,false,false,false,false,false,false,false,false,false,false,false,false,false,false,false,false,false,false,false,false,false,false,false,false,false,false,false,false,false,false,false,false,false,false,false,false,false,false,false,false,false] rfl rfl (one_of HT_.out (by kernel_rfl)) (by decide) (fun K hK => ?_);refine goes_ Try.func14 (by kernel_rfl) rfl #[.agg #[.int .i64 z05,.int .i64 z06,.int .u8 z07,.int .u16 z08,.int .u16 z09,.int .i64 z0a,.int .i64 z0b,.int .i64 z0d,.int .i64 z0e,.int .i64 z0f,.int .i64 z0g,.int .i64 z0h,.int .i64 z0i,.int .i64 z0j,.int .i64 z0k,.bool z0m],.int .i64 a1] (by rfl) rfl rfl (by (try simp only [List.map_toArray,List.map_cons,List.map_nil]);first|done|rfl|(simp only [List.length_drop,List.length_take];rfl)) ?_;with_reducible refine (carouselref16_Node.calls k z05 z06 z07 z08 z09 z0a z0b z0d z0e z0f z0g z0h z0i z0j z0k z0m a1 z0p _ A12.out).mono ?_
                  rintro e w43 ⟨rfl,hb⟩
                  refine ⟨_,rfl,?_⟩;have n0_:=zM (zB (g:=w.heap.size) (o:=.cells #[.int .i64 a0_0,.int .i64 a0_1,.int .u8 a0_2,.int .u16 a0_3,.int .u16 a0_4,.int .i64 a0_5,.int .i64 a0_6,.int .i64 a0_7,.int .i64 a0_8,.int .i64 a0_9,.int .i64 a0_10,.int .i64 a0_11,.int .i64 a0_12,.int .i64 a0_13,.int .i64 a0_14,.bool a0_15] 24 (0,0)) (by (with_reducible repeat first|apply zN|apply zD|apply zA);exact z00.out) hb);have n1_:=zM (zB (g:=w2.heap.size) (o:=.cells #[.int .i64 z05,.int .i64 z06,.int .u8 z07,.int .u16 z08,.int .u16 z09,.int .i64 z0a,.int .i64 z0b,.int .i64 z0d,.int .i64 z0e,.int .i64 z0f,.int .i64 z0g,.int .i64 z0h,.int .i64 z0i,.int .i64 z0j,.int .i64 z0k,.bool z0m] 25 (0,0)) (by (with_reducible repeat first|apply zN|apply zD|apply zA);exact z01.out) hb);have n2_:=zM (yT (by repeat (first|(with_reducible first|exact HB.out|apply yA|apply yN|apply yD|refine yS ?_ z0c.out|refine yS ?_ z0l.out)|exact HB.out)) hb);clear z00;clear z01;clear HB;have z00:=n0_;have z01:=n1_;have HB:=n2_;clear n0_ n1_ n2_;(try clear hb)
                  (try clear hb2)
                  (try clear hk)
                  (try clear hi)
                  refine hK.out _ _ ⟨(zC z00.out 0).trans rfl,(zC z00.out 1).trans rfl,(zC z00.out 2).trans rfl,(zC z00.out 3).trans rfl,(zC z00.out 4).trans rfl,(zC z00.out 5).trans rfl,(zC z00.out 6).trans rfl,(zC z00.out 7).trans rfl,(zC z00.out 8).trans rfl,(zC z00.out 9).trans rfl,(zC z00.out 10).trans rfl,(zC z00.out 11).trans rfl,(zC z00.out 12).trans rfl,(zC z00.out 13).trans rfl,(zC z00.out 14).trans rfl,(zC z00.out 15).trans rfl,(zC z01.out 0).trans rfl,(zC z01.out 1).trans rfl,(zC z01.out 2).trans rfl,(zC z01.out 3).trans rfl,(zC z01.out 4).trans rfl,(zC z01.out 5).trans rfl,(zC z01.out 6).trans rfl,(zC z01.out 7).trans rfl,(zC z01.out 8).trans rfl,(zC z01.out 9).trans rfl,(zC z01.out 10).trans rfl,(zC z01.out 11).trans rfl,(zC z01.out 12).trans rfl,(zC z01.out 13).trans rfl,(zC z01.out 14).trans rfl,(zC z01.out 15).trans rfl⟩ (fun hHeld => ?_);clear hK K;refine norm_ (a':=?_) ?_ ?_;rotate_left
                  ·
                   show Act.put _ (some 51) _ = _
                   simp only [Act.put,sA,sB,sC,i64_w,i32_w];rfl
                  refine pure_ (i:=8) (N:=some 52) (v:=?_) (a':=?_) #[true,true,true,true,true,true,true,true,true,false,false,false,false,false,false,false,false,false,false,false,false,false,false,false,false,false,false,false,false,false,false,false,false,false,false,false,false,false,false,false,false,false,false,false,false,false,false,false,false,false,false,false,false,false,false,false,false] rfl rfl (any_of HT_.out (by kernel_rfl)) (fun _ _ _ h => h) (Or.inl ⟨by rfl,?_⟩) ?_ ?_;rotate_left
                  ·
                   intro w';go_simp;with_reducible rfl
                  rotate_left
                  ·
                   simp only [Act.put,sA,sB,sC,i64_w,i32_w];rfl
                  refine pure_ (i:=9) (N:=some 53) (v:=?_) (a':=?_) #[true,true,true,true,true,true,true,true,true,true,false,false,false,false,false,false,false,false,false,false,false,false,false,false,false,false,false,false,false,false,false,false,false,false,false,false,false,false,false,false,false,false,false,false,false,false,false,false,false,false,false,false,false,false,false,false,false] rfl rfl (any_of HT_.out (by kernel_rfl)) (fun _ _ _ h => h) (Or.inl ⟨by rfl,?_⟩) ?_ ?_;rotate_left
                  ·
                   intro w';go_simp;with_reducible rfl
                  rotate_left
                  ·
                   simp only [Act.put,sA,sB,sC,i64_w,i32_w];rfl
                  refine pure_ (i:=10) (N:=some 54) (v:=?_) (a':=?_) #[true,true,true,true,true,true,true,true,true,true,true,false,false,false,false,false,false,false,false,false,false,false,false,false,false,false,false,false,false,false,false,false,false,false,false,false,false,false,false,false,false,false,false,false,false,false,false,false,false,false,false,false,false,false,false,false,false] rfl rfl (any_of HT_.out (by kernel_rfl)) (fun _ _ _ h => h) (Or.inl ⟨by rfl,?_⟩) ?_ ?_;rotate_left
                  ·
                   intro w';go_simp;with_reducible rfl
                  rotate_left
                  ·
                   simp only [Act.put,sA,sB,sC,i64_w,i32_w];rfl
                  refine pure_ (i:=12) (N:=some 56) (v:=?_) (a':=?_) #[true,true,true,true,true,true,true,true,true,true,true,false,true,false,false,false,false,false,false,false,false,false,false,false,false,false,false,false,false,false,false,false,false,false,false,false,false,false,false,false,false,false,false,false,false,false,false,false,false,false,false,false,false,false,false,false,false] rfl rfl (any_of HT_.out (by kernel_rfl)) (fun _ _ _ h => h) (Or.inl ⟨by rfl,?_⟩) ?_ ?_;rotate_left
                  ·
                   intro w';go_simp;with_reducible rfl
                  rotate_left
                  ·
                   simp only [Act.put,sA,sB,sC,i64_w,i32_w];rfl
                  refine pure_ (i:=15) (N:=some 59) (v:=?_) (a':=?_) #[true,true,true,true,true,true,true,true,true,true,true,false,true,false,false,true,false,false,false,false,false,false,false,false,false,false,false,false,false,false,false,false,false,false,false,false,false,false,false,false,false,false,false,false,false,false,false,false,false,false,false,false,false,false,false,false,false] rfl rfl (any_of HT_.out (by kernel_rfl)) (fun _ _ _ h => h) (Or.inl ⟨by rfl,?_⟩) ?_ ?_;rotate_left
                  ·
                   intro w';go_simp;with_reducible rfl
                  rotate_left
                  ·
                   simp only [Act.put,sA,sB,sC,i64_w,i32_w];rfl
                  refine take_ (i:=11) (N:=some 55) (v:=?_) (a':=?_) #[true,true,true,true,true,true,true,true,true,true,true,true,true,false,false,true,false,false,false,false,false,false,false,false,false,false,false,false,false,false,false,false,false,false,false,false,false,false,false,false,false,false,false,false,false,false,false,false,false,false,false,false,false,false,false,false,false] rfl rfl (take_ofW HT_.out HW_.out (by kernel_rfl)) (fun _ _ _ h => h) (Or.inl ⟨by rfl,?_⟩) hHeld ?_ ?_;rotate_left
                  ·
                   rintro w' ⟨s0,s1,s2,s3,s4,s5,s6,s7,s8,s9,s10,s11,s12,s13,s14,s15,s16,s17,s18,s19,s20,s21,s22,s23,s24,s25,s26,s27,s28,s29,s30,s31⟩
                   go_simp;with_reducible rfl
                  rotate_left
                  ·
                   simp only [Act.put,sA,sB,sC,i64_w,i32_w];rfl
                  refine take_ (i:=14) (N:=some 58) (v:=?_) (a':=?_) #[true,true,true,true,true,true,true,true,true,true,true,true,true,false,true,true,false,false,false,false,false,false,false,false,false,false,false,false,false,false,false,false,false,false,false,false,false,false,false,false,false,false,false,false,false,false,false,false,false,false,false,false,false,false,false,false,false] rfl rfl (take_ofW HT_.out HW_.out (by kernel_rfl)) (fun _ _ _ h => h) (Or.inl ⟨by rfl,?_⟩) hHeld ?_ ?_;rotate_left
                  ·
                   rintro w' ⟨s0,s1,s2,s3,s4,s5,s6,s7,s8,s9,s10,s11,s12,s13,s14,s15,s16,s17,s18,s19,s20,s21,s22,s23,s24,s25,s26,s27,s28,s29,s30,s31⟩
                   go_simp;with_reducible rfl
                  rotate_left
                  ·
                   simp only [Act.put,sA,sB,sC,i64_w,i32_w];rfl
                  refine one_ (i:=13) (N:=some 57) #[true,true,true,true,true,true,true,true,true,true,true,true,true,true,true,true,false,false,false,false,false,false,false,false,false,false,false,false,false,false,false,false,false,false,false,false,false,false,false,false,false,false,false,false,false,false,false,false,false,false,false,false,false,false,false,false,false] rfl rfl (one_of HT_.out (by kernel_rfl)) (by decide) (fun K hK => ?_);refine goes_ Try.func15 (by kernel_rfl) rfl #[.agg #[.int .i64 a0_0,.int .i64 a0_1,.int .u8 a0_2,.int .u16 a0_3,.int .u16 a0_4,.int .i64 a0_5,.int .i64 a0_6,.int .i64 a0_7,.int .i64 a0_8,.int .i64 a0_9,.int .i64 a0_10,.int .i64 a0_11,.int .i64 a0_12,.int .i64 a0_13,.int .i64 a0_14,.bool a0_15],.int .i64 a1] (by rfl) rfl rfl (by (try simp only [List.map_toArray,List.map_cons,List.map_nil]);first|done|rfl|(simp only [List.length_drop,List.length_take];rfl)) ?_;with_reducible refine (plan_Plan_Host.calls k a0_0 a0_1 a0_2 a0_3 a0_4 a0_5 a0_6 a0_7 a0_8 a0_9 a0_10 a0_11 a0_12 a0_13 a0_14 a0_15 a1 z0q _ A14.out).mono ?_
                  rintro e w44 ⟨rfl,hb⟩
                  as_aux_lemma =>
                   refine ⟨_,rfl,?_⟩;have n0_:=zM (zB (g:=w.heap.size) (o:=.cells #[.int .i64 a0_0,.int .i64 a0_1,.int .u8 a0_2,.int .u16 a0_3,.int .u16 a0_4,.int .i64 a0_5,.int .i64 a0_6,.int .i64 a0_7,.int .i64 a0_8,.int .i64 a0_9,.int .i64 a0_10,.int .i64 a0_11,.int .i64 a0_12,.int .i64 a0_13,.int .i64 a0_14,.bool a0_15] 24 (0,0)) (by (with_reducible repeat first|apply zN|apply zD|apply zA);exact z00.out) hb);have n1_:=zM (zB (g:=w2.heap.size) (o:=.cells #[.int .i64 z05,.int .i64 z06,.int .u8 z07,.int .u16 z08,.int .u16 z09,.int .i64 z0a,.int .i64 z0b,.int .i64 z0d,.int .i64 z0e,.int .i64 z0f,.int .i64 z0g,.int .i64 z0h,.int .i64 z0i,.int .i64 z0j,.int .i64 z0k,.bool z0m] 25 (0,0)) (by (with_reducible repeat first|apply zN|apply zD|apply zA);exact z01.out) hb);have n2_:=zM (yT (by repeat (first|(with_reducible first|exact HB.out|apply yA|apply yN|apply yD|refine yS ?_ z0c.out|refine yS ?_ z0l.out)|exact HB.out)) hb);clear z00;clear z01;clear HB;have z00:=n0_;have z01:=n1_;have HB:=n2_;clear n0_ n1_ n2_;(try clear hb)
                   (try clear hb2)
                   (try clear hk)
                   (try clear hi)
                   refine hK.out _ _ ⟨(zC z00.out 0).trans rfl,(zC z00.out 1).trans rfl,(zC z00.out 2).trans rfl,(zC z00.out 3).trans rfl,(zC z00.out 4).trans rfl,(zC z00.out 5).trans rfl,(zC z00.out 6).trans rfl,(zC z00.out 7).trans rfl,(zC z00.out 8).trans rfl,(zC z00.out 9).trans rfl,(zC z00.out 10).trans rfl,(zC z00.out 11).trans rfl,(zC z00.out 12).trans rfl,(zC z00.out 13).trans rfl,(zC z00.out 14).trans rfl,(zC z00.out 15).trans rfl,(zC z01.out 0).trans rfl,(zC z01.out 1).trans rfl,(zC z01.out 2).trans rfl,(zC z01.out 3).trans rfl,(zC z01.out 4).trans rfl,(zC z01.out 5).trans rfl,(zC z01.out 6).trans rfl,(zC z01.out 7).trans rfl,(zC z01.out 8).trans rfl,(zC z01.out 9).trans rfl,(zC z01.out 10).trans rfl,(zC z01.out 11).trans rfl,(zC z01.out 12).trans rfl,(zC z01.out 13).trans rfl,(zC z01.out 14).trans rfl,(zC z01.out 15).trans rfl⟩ (fun hHeld => ?_);clear hK K;refine norm_ (a':=?_) ?_ ?_;rotate_left
                   ·
                    show Act.put _ (some 57) _ = _
                    simp only [Act.put,sA,sB,sC,i64_w,i32_w];rfl
                   refine one_ (i:=16) (N:=some 60) #[true,true,true,true,true,true,true,true,true,true,true,true,true,true,true,true,true,false,false,false,false,false,false,false,false,false,false,false,false,false,false,false,false,false,false,false,false,false,false,false,false,false,false,false,false,false,false,false,false,false,false,false,false,false,false,false,false] rfl rfl (one_of HT_.out (by kernel_rfl)) (by decide) (fun K hK => ?_);refine goes_ Try.func16 (by kernel_rfl) rfl #[.agg #[.int .i64 z05,.int .i64 z06,.int .u8 z07,.int .u16 z08,.int .u16 z09,.int .i64 z0a,.int .i64 z0b,.int .i64 z0d,.int .i64 z0e,.int .i64 z0f,.int .i64 z0g,.int .i64 z0h,.int .i64 z0i,.int .i64 z0j,.int .i64 z0k,.bool z0m],.int .i64 a1] (by rfl) rfl rfl (by (try simp only [List.map_toArray,List.map_cons,List.map_nil]);first|done|rfl|(simp only [List.length_drop,List.length_take];rfl)) ?_;with_reducible refine (carouselref16_Host.calls k z05 z06 z07 z08 z09 z0a z0b z0d z0e z0f z0g z0h z0i z0j z0k z0m a1 z0r _ A15.out).mono ?_
                   rintro e w45 ⟨rfl,hb⟩
                   refine ⟨_,rfl,?_⟩;have n0_:=zM (zB (g:=w.heap.size) (o:=.cells #[.int .i64 a0_0,.int .i64 a0_1,.int .u8 a0_2,.int .u16 a0_3,.int .u16 a0_4,.int .i64 a0_5,.int .i64 a0_6,.int .i64 a0_7,.int .i64 a0_8,.int .i64 a0_9,.int .i64 a0_10,.int .i64 a0_11,.int .i64 a0_12,.int .i64 a0_13,.int .i64 a0_14,.bool a0_15] 24 (0,0)) (by (with_reducible repeat first|apply zN|apply zD|apply zA);exact z00.out) hb);have n1_:=zM (zB (g:=w2.heap.size) (o:=.cells #[.int .i64 z05,.int .i64 z06,.int .u8 z07,.int .u16 z08,.int .u16 z09,.int .i64 z0a,.int .i64 z0b,.int .i64 z0d,.int .i64 z0e,.int .i64 z0f,.int .i64 z0g,.int .i64 z0h,.int .i64 z0i,.int .i64 z0j,.int .i64 z0k,.bool z0m] 25 (0,0)) (by (with_reducible repeat first|apply zN|apply zD|apply zA);exact z01.out) hb);have n2_:=zM (yT (by repeat (first|(with_reducible first|exact HB.out|apply yA|apply yN|apply yD|refine yS ?_ z0c.out|refine yS ?_ z0l.out)|exact HB.out)) hb);clear z00;clear z01;clear HB;have z00:=n0_;have z01:=n1_;have HB:=n2_;clear n0_ n1_ n2_;(try clear hb)
                   (try clear hb2)
                   (try clear hk)
                   (try clear hi)
                   refine hK.out _ _ ⟨(zC z00.out 0).trans rfl,(zC z00.out 1).trans rfl,(zC z00.out 2).trans rfl,(zC z00.out 3).trans rfl,(zC z00.out 4).trans rfl,(zC z00.out 5).trans rfl,(zC z00.out 6).trans rfl,(zC z00.out 7).trans rfl,(zC z00.out 8).trans rfl,(zC z00.out 9).trans rfl,(zC z00.out 10).trans rfl,(zC z00.out 11).trans rfl,(zC z00.out 12).trans rfl,(zC z00.out 13).trans rfl,(zC z00.out 14).trans rfl,(zC z00.out 15).trans rfl,(zC z01.out 0).trans rfl,(zC z01.out 1).trans rfl,(zC z01.out 2).trans rfl,(zC z01.out 3).trans rfl,(zC z01.out 4).trans rfl,(zC z01.out 5).trans rfl,(zC z01.out 6).trans rfl,(zC z01.out 7).trans rfl,(zC z01.out 8).trans rfl,(zC z01.out 9).trans rfl,(zC z01.out 10).trans rfl,(zC z01.out 11).trans rfl,(zC z01.out 12).trans rfl,(zC z01.out 13).trans rfl,(zC z01.out 14).trans rfl,(zC z01.out 15).trans rfl⟩ (fun hHeld => ?_);clear hK K;refine norm_ (a':=?_) ?_ ?_;rotate_left
                   ·
                    show Act.put _ (some 60) _ = _
                    simp only [Act.put,sA,sB,sC,i64_w,i32_w];rfl
                   refine pure_ (i:=17) (N:=some 61) (v:=?_) (a':=?_) #[true,true,true,true,true,true,true,true,true,true,true,true,true,true,true,true,true,true,false,false,false,false,false,false,false,false,false,false,false,false,false,false,false,false,false,false,false,false,false,false,false,false,false,false,false,false,false,false,false,false,false,false,false,false,false,false,false] rfl rfl (any_of HT_.out (by kernel_rfl)) (fun _ _ _ h => h) (Or.inl ⟨by rfl,?_⟩) ?_ ?_;rotate_left
                   ·
                    intro w';go_simp;with_reducible rfl
                   rotate_left
                   ·
                    simp only [Act.put,sA,sB,sC,i64_w,i32_w];rfl
                   refine pure_ (i:=18) (N:=some 62) (v:=?_) (a':=?_) #[true,true,true,true,true,true,true,true,true,true,true,true,true,true,true,true,true,true,true,false,false,false,false,false,false,false,false,false,false,false,false,false,false,false,false,false,false,false,false,false,false,false,false,false,false,false,false,false,false,false,false,false,false,false,false,false,false] rfl rfl (any_of HT_.out (by kernel_rfl)) (fun _ _ _ h => h) (Or.inl ⟨by rfl,?_⟩) ?_ ?_;rotate_left
                   ·
                    intro w';go_simp;with_reducible rfl
                   rotate_left
                   ·
                    simp only [Act.put,sA,sB,sC,i64_w,i32_w];rfl
                   refine pure_ (i:=19) (N:=some 63) (v:=?_) (a':=?_) #[true,true,true,true,true,true,true,true,true,true,true,true,true,true,true,true,true,true,true,true,false,false,false,false,false,false,false,false,false,false,false,false,false,false,false,false,false,false,false,false,false,false,false,false,false,false,false,false,false,false,false,false,false,false,false,false,false] rfl rfl (any_of HT_.out (by kernel_rfl)) (fun _ _ _ h => h) (Or.inl ⟨by rfl,?_⟩) ?_ ?_;rotate_left
                   ·
                    intro w';go_simp;with_reducible rfl
                   rotate_left
                   ·
                    simp only [Act.put,sA,sB,sC,i64_w,i32_w];rfl
                   refine pure_ (i:=20) (N:=some 64) (v:=?_) (a':=?_) #[true,true,true,true,true,true,true,true,true,true,true,true,true,true,true,true,true,true,true,true,true,false,false,false,false,false,false,false,false,false,false,false,false,false,false,false,false,false,false,false,false,false,false,false,false,false,false,false,false,false,false,false,false,false,false,false,false] rfl rfl (any_of HT_.out (by kernel_rfl)) (fun _ _ _ h => h) (Or.inl ⟨by rfl,?_⟩) ?_ ?_;rotate_left
                   ·
                    intro w';go_simp;with_reducible rfl
                   rotate_left
                   ·
                    simp only [Act.put,sA,sB,sC,i64_w,i32_w];rfl
                   refine pure_ (i:=21) (N:=some 65) (v:=?_) (a':=?_) #[true,true,true,true,true,true,true,true,true,true,true,true,true,true,true,true,true,true,true,true,true,true,false,false,false,false,false,false,false,false,false,false,false,false,false,false,false,false,false,false,false,false,false,false,false,false,false,false,false,false,false,false,false,false,false,false,false] rfl rfl (any_of HT_.out (by kernel_rfl)) (fun _ _ _ h => h) (Or.inl ⟨by rfl,?_⟩) ?_ ?_;rotate_left
                   ·
                    intro w';go_simp;with_reducible rfl
                   rotate_left
                   ·
                    simp only [Act.put,sA,sB,sC,i64_w,i32_w];rfl
                   refine pure_ (i:=22) (N:=some 66) (v:=?_) (a':=?_) #[true,true,true,true,true,true,true,true,true,true,true,true,true,true,true,true,true,true,true,true,true,true,true,false,false,false,false,false,false,false,false,false,false,false,false,false,false,false,false,false,false,false,false,false,false,false,false,false,false,false,false,false,false,false,false,false,false] rfl rfl (any_of HT_.out (by kernel_rfl)) (fun _ _ _ h => h) (Or.inl ⟨by rfl,?_⟩) ?_ ?_;rotate_left
                   ·
                    intro w';go_simp;with_reducible rfl
                   rotate_left
                   ·
                    simp only [Act.put,sA,sB,sC,i64_w,i32_w];rfl
                   refine pure_ (i:=23) (N:=some 67) (v:=?_) (a':=?_) #[true,true,true,true,true,true,true,true,true,true,true,true,true,true,true,true,true,true,true,true,true,true,true,true,false,false,false,false,false,false,false,false,false,false,false,false,false,false,false,false,false,false,false,false,false,false,false,false,false,false,false,false,false,false,false,false,false] rfl rfl (any_of HT_.out (by kernel_rfl)) (fun _ _ _ h => h) (Or.inl ⟨by rfl,?_⟩) ?_ ?_;rotate_left
                   ·
                    intro w';go_simp;with_reducible rfl
                   rotate_left
                   ·
                    simp only [Act.put,sA,sB,sC,i64_w,i32_w];rfl
                   refine pure_ (i:=24) (N:=some 68) (v:=?_) (a':=?_) #[true,true,true,true,true,true,true,true,true,true,true,true,true,true,true,true,true,true,true,true,true,true,true,true,true,false,false,false,false,false,false,false,false,false,false,false,false,false,false,false,false,false,false,false,false,false,false,false,false,false,false,false,false,false,false,false,false] rfl rfl (any_of HT_.out (by kernel_rfl)) (fun _ _ _ h => h) (Or.inl ⟨by rfl,?_⟩) ?_ ?_;rotate_left
                   ·
                    intro w';go_simp;with_reducible rfl
                   rotate_left
                   ·
                    simp only [Act.put,sA,sB,sC,i64_w,i32_w];rfl
                   refine pure_ (i:=25) (N:=some 69) (v:=?_) (a':=?_) #[true,true,true,true,true,true,true,true,true,true,true,true,true,true,true,true,true,true,true,true,true,true,true,true,true,true,false,false,false,false,false,false,false,false,false,false,false,false,false,false,false,false,false,false,false,false,false,false,false,false,false,false,false,false,false,false,false] rfl rfl (any_of HT_.out (by kernel_rfl)) (fun _ _ _ h => h) (Or.inl ⟨by rfl,?_⟩) ?_ ?_;rotate_left
                   ·
                    intro w';go_simp;with_reducible rfl
                   rotate_left
                   ·
                    simp only [Act.put,sA,sB,sC,i64_w,i32_w];rfl
                   refine pure_ (i:=26) (N:=some 70) (v:=?_) (a':=?_) #[true,true,true,true,true,true,true,true,true,true,true,true,true,true,true,true,true,true,true,true,true,true,true,true,true,true,true,false,false,false,false,false,false,false,false,false,false,false,false,false,false,false,false,false,false,false,false,false,false,false,false,false,false,false,false,false,false] rfl rfl (any_of HT_.out (by kernel_rfl)) (fun _ _ _ h => h) (Or.inl ⟨by rfl,?_⟩) ?_ ?_;rotate_left
                   ·
                    intro w';go_simp;with_reducible rfl
                   rotate_left
                   ·
                    simp only [Act.put,sA,sB,sC,i64_w,i32_w];rfl
                   refine pure_ (i:=27) (N:=some 71) (v:=?_) (a':=?_) #[true,true,true,true,true,true,true,true,true,true,true,true,true,true,true,true,true,true,true,true,true,true,true,true,true,true,true,true,false,false,false,false,false,false,false,false,false,false,false,false,false,false,false,false,false,false,false,false,false,false,false,false,false,false,false,false,false] rfl rfl (any_of HT_.out (by kernel_rfl)) (fun _ _ _ h => h) (Or.inl ⟨by rfl,?_⟩) ?_ ?_;rotate_left
                   ·
                    intro w';go_simp;with_reducible rfl
                   rotate_left
                   ·
                    simp only [Act.put,sA,sB,sC,i64_w,i32_w];rfl
                   refine pure_ (i:=28) (N:=some 72) (v:=?_) (a':=?_) #[true,true,true,true,true,true,true,true,true,true,true,true,true,true,true,true,true,true,true,true,true,true,true,true,true,true,true,true,true,false,false,false,false,false,false,false,false,false,false,false,false,false,false,false,false,false,false,false,false,false,false,false,false,false,false,false,false] rfl rfl (any_of HT_.out (by kernel_rfl)) (fun _ _ _ h => h) (Or.inl ⟨by rfl,?_⟩) ?_ ?_;rotate_left
                   ·
                    intro w';go_simp;with_reducible rfl
                   rotate_left
                   ·
                    simp only [Act.put,sA,sB,sC,i64_w,i32_w];rfl
                   refine pure_ (i:=29) (N:=some 73) (v:=?_) (a':=?_) #[true,true,true,true,true,true,true,true,true,true,true,true,true,true,true,true,true,true,true,true,true,true,true,true,true,true,true,true,true,true,false,false,false,false,false,false,false,false,false,false,false,false,false,false,false,false,false,false,false,false,false,false,false,false,false,false,false] rfl rfl (any_of HT_.out (by kernel_rfl)) (fun _ _ _ h => h) (Or.inl ⟨by rfl,?_⟩) ?_ ?_;rotate_left
                   ·
                    intro w';go_simp;with_reducible rfl
                   rotate_left
                   ·
                    simp only [Act.put,sA,sB,sC,i64_w,i32_w];rfl
                   refine pure_ (i:=30) (N:=some 74) (v:=?_) (a':=?_) #[true,true,true,true,true,true,true,true,true,true,true,true,true,true,true,true,true,true,true,true,true,true,true,true,true,true,true,true,true,true,true,false,false,false,false,false,false,false,false,false,false,false,false,false,false,false,false,false,false,false,false,false,false,false,false,false,false] rfl rfl (any_of HT_.out (by kernel_rfl)) (fun _ _ _ h => h) (Or.inl ⟨by rfl,?_⟩) ?_ ?_;rotate_left
                   ·
                    intro w';go_simp;with_reducible rfl
                   rotate_left
                   ·
                    simp only [Act.put,sA,sB,sC,i64_w,i32_w];rfl
                   refine pure_ (i:=31) (N:=some 75) (v:=?_) (a':=?_) #[true,true,true,true,true,true,true,true,true,true,true,true,true,true,true,true,true,true,true,true,true,true,true,true,true,true,true,true,true,true,true,true,false,false,false,false,false,false,false,false,false,false,false,false,false,false,false,false,false,false,false,false,false,false,false,false,false] rfl rfl (any_of HT_.out (by kernel_rfl)) (fun _ _ _ h => h) (Or.inl ⟨by rfl,?_⟩) ?_ ?_;rotate_left
                   ·
                    intro w';go_simp;with_reducible rfl
                   rotate_left
                   ·
                    simp only [Act.put,sA,sB,sC,i64_w,i32_w];rfl
                   refine pure_ (i:=32) (N:=some 76) (v:=?_) (a':=?_) #[true,true,true,true,true,true,true,true,true,true,true,true,true,true,true,true,true,true,true,true,true,true,true,true,true,true,true,true,true,true,true,true,true,false,false,false,false,false,false,false,false,false,false,false,false,false,false,false,false,false,false,false,false,false,false,false,false] rfl rfl (any_of HT_.out (by kernel_rfl)) (fun _ _ _ h => h) (Or.inl ⟨by rfl,?_⟩) ?_ ?_;rotate_left
                   ·
                    intro w';go_simp;with_reducible rfl
                   rotate_left
                   ·
                    simp only [Act.put,sA,sB,sC,i64_w,i32_w];rfl
                   refine pure_ (i:=33) (N:=some 77) (v:=?_) (a':=?_) #[true,true,true,true,true,true,true,true,true,true,true,true,true,true,true,true,true,true,true,true,true,true,true,true,true,true,true,true,true,true,true,true,true,true,false,false,false,false,false,false,false,false,false,false,false,false,false,false,false,false,false,false,false,false,false,false,false] rfl rfl (any_of HT_.out (by kernel_rfl)) (fun _ _ _ h => h) (Or.inl ⟨by rfl,?_⟩) ?_ ?_;rotate_left
                   ·
                    intro w';go_simp;with_reducible rfl
                   rotate_left
                   ·
                    simp only [Act.put,sA,sB,sC,i64_w,i32_w];rfl
                   refine pure_ (i:=34) (N:=some 78) (v:=?_) (a':=?_) #[true,true,true,true,true,true,true,true,true,true,true,true,true,true,true,true,true,true,true,true,true,true,true,true,true,true,true,true,true,true,true,true,true,true,true,false,false,false,false,false,false,false,false,false,false,false,false,false,false,false,false,false,false,false,false,false,false] rfl rfl (any_of HT_.out (by kernel_rfl)) (fun _ _ _ h => h) (Or.inl ⟨by rfl,?_⟩) ?_ ?_;rotate_left
                   ·
                    intro w';go_simp;with_reducible rfl
                   rotate_left
                   ·
                    simp only [Act.put,sA,sB,sC,i64_w,i32_w];rfl
                   refine pure_ (i:=35) (N:=some 79) (v:=?_) (a':=?_) #[true,true,true,true,true,true,true,true,true,true,true,true,true,true,true,true,true,true,true,true,true,true,true,true,true,true,true,true,true,true,true,true,true,true,true,true,false,false,false,false,false,false,false,false,false,false,false,false,false,false,false,false,false,false,false,false,false] rfl rfl (any_of HT_.out (by kernel_rfl)) (fun _ _ _ h => h) (Or.inl ⟨by rfl,?_⟩) ?_ ?_;rotate_left
                   ·
                    intro w';go_simp;with_reducible rfl
                   rotate_left
                   ·
                    simp only [Act.put,sA,sB,sC,i64_w,i32_w];rfl
                   refine pure_ (i:=36) (N:=some 80) (v:=?_) (a':=?_) #[true,true,true,true,true,true,true,true,true,true,true,true,true,true,true,true,true,true,true,true,true,true,true,true,true,true,true,true,true,true,true,true,true,true,true,true,true,false,false,false,false,false,false,false,false,false,false,false,false,false,false,false,false,false,false,false,false] rfl rfl (any_of HT_.out (by kernel_rfl)) (fun _ _ _ h => h) (Or.inl ⟨by rfl,?_⟩) ?_ ?_;rotate_left
                   ·
                    intro w';go_simp;with_reducible rfl
                   rotate_left
                   ·
                    simp only [Act.put,sA,sB,sC,i64_w,i32_w];rfl
                   refine pure_ (i:=37) (N:=some 81) (v:=?_) (a':=?_) #[true,true,true,true,true,true,true,true,true,true,true,true,true,true,true,true,true,true,true,true,true,true,true,true,true,true,true,true,true,true,true,true,true,true,true,true,true,true,false,false,false,false,false,false,false,false,false,false,false,false,false,false,false,false,false,false,false] rfl rfl (any_of HT_.out (by kernel_rfl)) (fun _ _ _ h => h) (Or.inl ⟨by rfl,?_⟩) ?_ ?_;rotate_left
                   ·
                    intro w';go_simp;with_reducible rfl
                   rotate_left
                   ·
                    simp only [Act.put,sA,sB,sC,i64_w,i32_w];rfl
                   refine pure_ (i:=38) (N:=some 82) (v:=?_) (a':=?_) #[true,true,true,true,true,true,true,true,true,true,true,true,true,true,true,true,true,true,true,true,true,true,true,true,true,true,true,true,true,true,true,true,true,true,true,true,true,true,true,false,false,false,false,false,false,false,false,false,false,false,false,false,false,false,false,false,false] rfl rfl (any_of HT_.out (by kernel_rfl)) (fun _ _ _ h => h) (Or.inl ⟨by rfl,?_⟩) ?_ ?_;rotate_left
                   ·
                    intro w';go_simp;with_reducible rfl
                   rotate_left
                   ·
                    simp only [Act.put,sA,sB,sC,i64_w,i32_w];rfl
                   refine pure_ (i:=39) (N:=some 83) (v:=?_) (a':=?_) #[true,true,true,true,true,true,true,true,true,true,true,true,true,true,true,true,true,true,true,true,true,true,true,true,true,true,true,true,true,true,true,true,true,true,true,true,true,true,true,true,false,false,false,false,false,false,false,false,false,false,false,false,false,false,false,false,false] rfl rfl (any_of HT_.out (by kernel_rfl)) (fun _ _ _ h => h) (Or.inl ⟨by rfl,?_⟩) ?_ ?_;rotate_left
                   ·
                    intro w';go_simp;with_reducible rfl
                   rotate_left
                   ·
                    simp only [Act.put,sA,sB,sC,i64_w,i32_w];rfl
                   refine pure_ (i:=41) (N:=some 85) (v:=?_) (a':=?_) #[true,true,true,true,true,true,true,true,true,true,true,true,true,true,true,true,true,true,true,true,true,true,true,true,true,true,true,true,true,true,true,true,true,true,true,true,true,true,true,true,false,true,false,false,false,false,false,false,false,false,false,false,false,false,false,false,false] rfl rfl (any_of HT_.out (by kernel_rfl)) (fun _ _ _ h => h) (Or.inl ⟨by rfl,?_⟩) ?_ ?_;rotate_left
                   ·
                    intro w';go_simp;with_reducible rfl
                   rotate_left
                   ·
                    simp only [Act.put,sA,sB,sC,i64_w,i32_w];rfl
                   refine pure_ (i:=42) (N:=some 86) (v:=?_) (a':=?_) #[true,true,true,true,true,true,true,true,true,true,true,true,true,true,true,true,true,true,true,true,true,true,true,true,true,true,true,true,true,true,true,true,true,true,true,true,true,true,true,true,false,true,true,false,false,false,false,false,false,false,false,false,false,false,false,false,false] rfl rfl (any_of HT_.out (by kernel_rfl)) (fun _ _ _ h => h) (Or.inl ⟨by rfl,?_⟩) ?_ ?_;rotate_left
                   ·
                    intro w';go_simp;with_reducible rfl
                   rotate_left
                   ·
                    simp only [Act.put,sA,sB,sC,i64_w,i32_w];rfl
                   refine pure_ (i:=45) (N:=some 89) (v:=?_) (a':=?_) #[true,true,true,true,true,true,true,true,true,true,true,true,true,true,true,true,true,true,true,true,true,true,true,true,true,true,true,true,true,true,true,true,true,true,true,true,true,true,true,true,false,true,true,false,false,true,false,false,false,false,false,false,false,false,false,false,false] rfl rfl (any_of HT_.out (by kernel_rfl)) (fun _ _ _ h => h) (Or.inl ⟨by rfl,?_⟩) ?_ ?_;rotate_left
                   ·
                    intro w';go_simp;with_reducible rfl
                   rotate_left
                   ·
                    simp only [Act.put,sA,sB,sC,i64_w,i32_w];rfl
                   refine pure_ (i:=46) (N:=some 90) (v:=?_) (a':=?_) #[true,true,true,true,true,true,true,true,true,true,true,true,true,true,true,true,true,true,true,true,true,true,true,true,true,true,true,true,true,true,true,true,true,true,true,true,true,true,true,true,false,true,true,false,false,true,true,false,false,false,false,false,false,false,false,false,false] rfl rfl (any_of HT_.out (by kernel_rfl)) (fun _ _ _ h => h) (Or.inl ⟨by rfl,?_⟩) ?_ ?_;rotate_left
                   ·
                    intro w';go_simp;with_reducible rfl
                   rotate_left
                   ·
                    simp only [Act.put,sA,sB,sC,i64_w,i32_w];rfl
                   refine take_ (i:=40) (N:=some 84) (v:=?_) (a':=?_) #[true,true,true,true,true,true,true,true,true,true,true,true,true,true,true,true,true,true,true,true,true,true,true,true,true,true,true,true,true,true,true,true,true,true,true,true,true,true,true,true,true,true,true,false,false,true,true,false,false,false,false,false,false,false,false,false,false] rfl rfl (take_ofW HT_.out HW_.out (by kernel_rfl)) (fun _ _ _ h => h) (Or.inl ⟨by rfl,?_⟩) hHeld ?_ ?_;rotate_left
                   ·
                    rintro w' ⟨s0,s1,s2,s3,s4,s5,s6,s7,s8,s9,s10,s11,s12,s13,s14,s15,s16,s17,s18,s19,s20,s21,s22,s23,s24,s25,s26,s27,s28,s29,s30,s31⟩
                    go_simp;with_reducible rfl
                   rotate_left
                   ·
                    simp only [Act.put,sA,sB,sC,i64_w,i32_w];rfl
                   refine take_ (i:=44) (N:=some 88) (v:=?_) (a':=?_) #[true,true,true,true,true,true,true,true,true,true,true,true,true,true,true,true,true,true,true,true,true,true,true,true,true,true,true,true,true,true,true,true,true,true,true,true,true,true,true,true,true,true,true,false,true,true,true,false,false,false,false,false,false,false,false,false,false] rfl rfl (take_ofW HT_.out HW_.out (by kernel_rfl)) (fun _ _ _ h => h) (Or.inl ⟨by rfl,?_⟩) hHeld ?_ ?_;rotate_left
                   ·
                    rintro w' ⟨s0,s1,s2,s3,s4,s5,s6,s7,s8,s9,s10,s11,s12,s13,s14,s15,s16,s17,s18,s19,s20,s21,s22,s23,s24,s25,s26,s27,s28,s29,s30,s31⟩
                    go_simp;with_reducible rfl
                   rotate_left
                   ·
                    simp only [Act.put,sA,sB,sC,i64_w,i32_w];rfl
                   refine one_ (i:=43) (N:=some 87) #[true,true,true,true,true,true,true,true,true,true,true,true,true,true,true,true,true,true,true,true,true,true,true,true,true,true,true,true,true,true,true,true,true,true,true,true,true,true,true,true,true,true,true,true,true,true,true,false,false,false,false,false,false,false,false,false,false] rfl rfl (one_of HT_.out (by kernel_rfl)) (by decide) (fun K hK => ?_);refine goes_ Try.func17 (by kernel_rfl) rfl #[.agg #[.int .i64 a0_0,.int .i64 a0_1,.int .u8 a0_2,.int .u16 a0_3,.int .u16 a0_4,.int .i64 a0_5,.int .i64 a0_6,.int .i64 a0_7,.int .i64 a0_8,.int .i64 a0_9,.int .i64 a0_10,.int .i64 a0_11,.int .i64 a0_12,.int .i64 a0_13,.int .i64 a0_14,.bool a0_15],.int .i64 a1,.int .i64 a2] (by rfl) rfl rfl (by (try simp only [List.map_toArray,List.map_cons,List.map_nil]);first|done|rfl|(simp only [List.length_drop,List.length_take];rfl)) ?_;with_reducible refine (plan_Plan_End.calls k a0_0 a0_1 a0_2 a0_3 a0_4 a0_5 a0_6 a0_7 a0_8 a0_9 a0_10 a0_11 a0_12 a0_13 a0_14 a0_15 a1 a2 z0s _ A21.out).mono ?_
                   rintro e w46 ⟨rfl,hb⟩
                   refine ⟨_,rfl,?_⟩;have n0_:=zM (zB (g:=w.heap.size) (o:=.cells #[.int .i64 a0_0,.int .i64 a0_1,.int .u8 a0_2,.int .u16 a0_3,.int .u16 a0_4,.int .i64 a0_5,.int .i64 a0_6,.int .i64 a0_7,.int .i64 a0_8,.int .i64 a0_9,.int .i64 a0_10,.int .i64 a0_11,.int .i64 a0_12,.int .i64 a0_13,.int .i64 a0_14,.bool a0_15] 24 (0,0)) (by (with_reducible repeat first|apply zN|apply zD|apply zA);exact z00.out) hb);have n1_:=zM (zB (g:=w2.heap.size) (o:=.cells #[.int .i64 z05,.int .i64 z06,.int .u8 z07,.int .u16 z08,.int .u16 z09,.int .i64 z0a,.int .i64 z0b,.int .i64 z0d,.int .i64 z0e,.int .i64 z0f,.int .i64 z0g,.int .i64 z0h,.int .i64 z0i,.int .i64 z0j,.int .i64 z0k,.bool z0m] 25 (0,0)) (by (with_reducible repeat first|apply zN|apply zD|apply zA);exact z01.out) hb);have n2_:=zM (yT (by repeat (first|(with_reducible first|exact HB.out|apply yA|apply yN|apply yD|refine yS ?_ z0c.out|refine yS ?_ z0l.out)|exact HB.out)) hb);clear z00;clear z01;clear HB;have z00:=n0_;have z01:=n1_;have HB:=n2_;clear n0_ n1_ n2_;(try clear hb)
                   (try clear hb2)
                   (try clear hk)
                   (try clear hi)
                   refine hK.out _ _ ⟨(zC z00.out 0).trans rfl,(zC z00.out 1).trans rfl,(zC z00.out 2).trans rfl,(zC z00.out 3).trans rfl,(zC z00.out 4).trans rfl,(zC z00.out 5).trans rfl,(zC z00.out 6).trans rfl,(zC z00.out 7).trans rfl,(zC z00.out 8).trans rfl,(zC z00.out 9).trans rfl,(zC z00.out 10).trans rfl,(zC z00.out 11).trans rfl,(zC z00.out 12).trans rfl,(zC z00.out 13).trans rfl,(zC z00.out 14).trans rfl,(zC z00.out 15).trans rfl,(zC z01.out 0).trans rfl,(zC z01.out 1).trans rfl,(zC z01.out 2).trans rfl,(zC z01.out 3).trans rfl,(zC z01.out 4).trans rfl,(zC z01.out 5).trans rfl,(zC z01.out 6).trans rfl,(zC z01.out 7).trans rfl,(zC z01.out 8).trans rfl,(zC z01.out 9).trans rfl,(zC z01.out 10).trans rfl,(zC z01.out 11).trans rfl,(zC z01.out 12).trans rfl,(zC z01.out 13).trans rfl,(zC z01.out 14).trans rfl,(zC z01.out 15).trans rfl⟩ (fun hHeld => ?_);clear hK K;refine norm_ (a':=?_) ?_ ?_;rotate_left
                   ·
                    show Act.put _ (some 87) _ = _
                    simp only [Act.put,sA,sB,sC,i64_w,i32_w];rfl
                   refine one_ (i:=47) (N:=some 91) #[true,true,true,true,true,true,true,true,true,true,true,true,true,true,true,true,true,true,true,true,true,true,true,true,true,true,true,true,true,true,true,true,true,true,true,true,true,true,true,true,true,true,true,true,true,true,true,true,false,false,false,false,false,false,false,false,false] rfl rfl (one_of HT_.out (by kernel_rfl)) (by decide) (fun K hK => ?_);refine goes_ Try.func18 (by kernel_rfl) rfl #[.agg #[.int .i64 z05,.int .i64 z06,.int .u8 z07,.int .u16 z08,.int .u16 z09,.int .i64 z0a,.int .i64 z0b,.int .i64 z0d,.int .i64 z0e,.int .i64 z0f,.int .i64 z0g,.int .i64 z0h,.int .i64 z0i,.int .i64 z0j,.int .i64 z0k,.bool z0m],.int .i64 a1,.int .i64 a2] (by rfl) rfl rfl (by (try simp only [List.map_toArray,List.map_cons,List.map_nil]);first|done|rfl|(simp only [List.length_drop,List.length_take];rfl)) ?_;with_reducible refine (carouselref16_End.calls k z05 z06 z07 z08 z09 z0a z0b z0d z0e z0f z0g z0h z0i z0j z0k z0m a1 a2 z0t _ A22.out).mono ?_
                   rintro e w47 ⟨rfl,hb⟩
                   as_aux_lemma =>
                    refine ⟨_,rfl,?_⟩;have n0_:=zM (zB (g:=w.heap.size) (o:=.cells #[.int .i64 a0_0,.int .i64 a0_1,.int .u8 a0_2,.int .u16 a0_3,.int .u16 a0_4,.int .i64 a0_5,.int .i64 a0_6,.int .i64 a0_7,.int .i64 a0_8,.int .i64 a0_9,.int .i64 a0_10,.int .i64 a0_11,.int .i64 a0_12,.int .i64 a0_13,.int .i64 a0_14,.bool a0_15] 24 (0,0)) (by (with_reducible repeat first|apply zN|apply zD|apply zA);exact z00.out) hb);have n1_:=zM (zB (g:=w2.heap.size) (o:=.cells #[.int .i64 z05,.int .i64 z06,.int .u8 z07,.int .u16 z08,.int .u16 z09,.int .i64 z0a,.int .i64 z0b,.int .i64 z0d,.int .i64 z0e,.int .i64 z0f,.int .i64 z0g,.int .i64 z0h,.int .i64 z0i,.int .i64 z0j,.int .i64 z0k,.bool z0m] 25 (0,0)) (by (with_reducible repeat first|apply zN|apply zD|apply zA);exact z01.out) hb);have n2_:=zM (yT (by repeat (first|(with_reducible first|exact HB.out|apply yA|apply yN|apply yD|refine yS ?_ z0c.out|refine yS ?_ z0l.out)|exact HB.out)) hb);clear z00;clear z01;clear HB;have z00:=n0_;have z01:=n1_;have HB:=n2_;clear n0_ n1_ n2_;(try clear hb)
                    (try clear hb2)
                    (try clear hk)
                    (try clear hi)
                    refine hK.out _ _ ⟨(zC z00.out 0).trans rfl,(zC z00.out 1).trans rfl,(zC z00.out 2).trans rfl,(zC z00.out 3).trans rfl,(zC z00.out 4).trans rfl,(zC z00.out 5).trans rfl,(zC z00.out 6).trans rfl,(zC z00.out 7).trans rfl,(zC z00.out 8).trans rfl,(zC z00.out 9).trans rfl,(zC z00.out 10).trans rfl,(zC z00.out 11).trans rfl,(zC z00.out 12).trans rfl,(zC z00.out 13).trans rfl,(zC z00.out 14).trans rfl,(zC z00.out 15).trans rfl,(zC z01.out 0).trans rfl,(zC z01.out 1).trans rfl,(zC z01.out 2).trans rfl,(zC z01.out 3).trans rfl,(zC z01.out 4).trans rfl,(zC z01.out 5).trans rfl,(zC z01.out 6).trans rfl,(zC z01.out 7).trans rfl,(zC z01.out 8).trans rfl,(zC z01.out 9).trans rfl,(zC z01.out 10).trans rfl,(zC z01.out 11).trans rfl,(zC z01.out 12).trans rfl,(zC z01.out 13).trans rfl,(zC z01.out 14).trans rfl,(zC z01.out 15).trans rfl⟩ (fun hHeld => ?_);clear hK K;refine norm_ (a':=?_) ?_ ?_;rotate_left
                    ·
                     show Act.put _ (some 91) _ = _
                     simp only [Act.put,sA,sB,sC,i64_w,i32_w];rfl
                    refine pure_ (i:=48) (N:=some 92) (v:=?_) (a':=?_) #[true,true,true,true,true,true,true,true,true,true,true,true,true,true,true,true,true,true,true,true,true,true,true,true,true,true,true,true,true,true,true,true,true,true,true,true,true,true,true,true,true,true,true,true,true,true,true,true,true,false,false,false,false,false,false,false,false] rfl rfl (any_of HT_.out (by kernel_rfl)) (fun _ _ _ h => h) (Or.inl ⟨by rfl,?_⟩) ?_ ?_;rotate_left
                    ·
                     intro w';go_simp;with_reducible rfl
                    rotate_left
                    ·
                     simp only [Act.put,sA,sB,sC,i64_w,i32_w];rfl
                    refine pure_ (i:=49) (N:=some 93) (v:=?_) (a':=?_) #[true,true,true,true,true,true,true,true,true,true,true,true,true,true,true,true,true,true,true,true,true,true,true,true,true,true,true,true,true,true,true,true,true,true,true,true,true,true,true,true,true,true,true,true,true,true,true,true,true,true,false,false,false,false,false,false,false] rfl rfl (any_of HT_.out (by kernel_rfl)) (fun _ _ _ h => h) (Or.inl ⟨by rfl,?_⟩) ?_ ?_;rotate_left
                    ·
                     intro w';go_simp;with_reducible rfl
                    rotate_left
                    ·
                     simp only [Act.put,sA,sB,sC,i64_w,i32_w];rfl
                    refine pure_ (i:=50) (N:=some 94) (v:=?_) (a':=?_) #[true,true,true,true,true,true,true,true,true,true,true,true,true,true,true,true,true,true,true,true,true,true,true,true,true,true,true,true,true,true,true,true,true,true,true,true,true,true,true,true,true,true,true,true,true,true,true,true,true,true,true,false,false,false,false,false,false] rfl rfl (any_of HT_.out (by kernel_rfl)) (fun _ _ _ h => h) (Or.inl ⟨by rfl,?_⟩) ?_ ?_;rotate_left
                    ·
                     intro w';go_simp;with_reducible rfl
                    rotate_left
                    ·
                     simp only [Act.put,sA,sB,sC,i64_w,i32_w];rfl
                    refine take_ (i:=51) (N:=some 95) (v:=?_) (a':=?_) #[true,true,true,true,true,true,true,true,true,true,true,true,true,true,true,true,true,true,true,true,true,true,true,true,true,true,true,true,true,true,true,true,true,true,true,true,true,true,true,true,true,true,true,true,true,true,true,true,true,true,true,true,false,false,false,false,false] rfl rfl (take_ofW HT_.out HW_.out (by kernel_rfl)) (fun _ _ _ h => h) (Or.inl ⟨by rfl,?_⟩) hHeld ?_ ?_;rotate_left
                    ·
                     rintro w' ⟨s0,s1,s2,s3,s4,s5,s6,s7,s8,s9,s10,s11,s12,s13,s14,s15,s16,s17,s18,s19,s20,s21,s22,s23,s24,s25,s26,s27,s28,s29,s30,s31⟩
                     go_simp;with_reducible rfl
                    rotate_left
                    ·
                     simp only [Act.put,sA,sB,sC,i64_w,i32_w];rfl
                    refine one_ (i:=52) (N:=some 96) #[true,true,true,true,true,true,true,true,true,true,true,true,true,true,true,true,true,true,true,true,true,true,true,true,true,true,true,true,true,true,true,true,true,true,true,true,true,true,true,true,true,true,true,true,true,true,true,true,true,true,true,true,true,false,false,false,false] rfl rfl (one_of HT_.out (by kernel_rfl)) (by decide) (fun K hK => ?_);refine goes_ Try.func19 (by kernel_rfl) rfl #[.agg #[.int .i64 a0_0,.int .i64 a0_1,.int .u8 a0_2,.int .u16 a0_3,.int .u16 a0_4,.int .i64 a0_5,.int .i64 a0_6,.int .i64 a0_7,.int .i64 a0_8,.int .i64 a0_9,.int .i64 a0_10,.int .i64 a0_11,.int .i64 a0_12,.int .i64 a0_13,.int .i64 a0_14,.bool a0_15]] (by rfl) rfl rfl (by (try simp only [List.map_toArray,List.map_cons,List.map_nil]);first|done|rfl|(simp only [List.length_drop,List.length_take];rfl)) ?_;with_reducible refine (plan_Plan_Group.calls a0_0 a0_1 a0_2 a0_3 a0_4 a0_5 a0_6 a0_7 a0_8 a0_9 a0_10 a0_11 a0_12 a0_13 a0_14 a0_15 z12 _ A24.out).mono ?_
                    rintro e w48 ⟨rfl,hb⟩
                    refine ⟨_,rfl,?_⟩;have n0_:=zM (zB (g:=w.heap.size) (o:=.cells #[.int .i64 a0_0,.int .i64 a0_1,.int .u8 a0_2,.int .u16 a0_3,.int .u16 a0_4,.int .i64 a0_5,.int .i64 a0_6,.int .i64 a0_7,.int .i64 a0_8,.int .i64 a0_9,.int .i64 a0_10,.int .i64 a0_11,.int .i64 a0_12,.int .i64 a0_13,.int .i64 a0_14,.bool a0_15] 24 (0,0)) (by (with_reducible repeat first|apply zN|apply zD|apply zA);exact z00.out) hb);have n1_:=zM (zB (g:=w2.heap.size) (o:=.cells #[.int .i64 z05,.int .i64 z06,.int .u8 z07,.int .u16 z08,.int .u16 z09,.int .i64 z0a,.int .i64 z0b,.int .i64 z0d,.int .i64 z0e,.int .i64 z0f,.int .i64 z0g,.int .i64 z0h,.int .i64 z0i,.int .i64 z0j,.int .i64 z0k,.bool z0m] 25 (0,0)) (by (with_reducible repeat first|apply zN|apply zD|apply zA);exact z01.out) hb);have n2_:=zM (yT (by repeat (first|(with_reducible first|exact HB.out|apply yA|apply yN|apply yD|refine yS ?_ z0c.out|refine yS ?_ z0l.out)|exact HB.out)) hb);clear z00;clear z01;clear HB;have z00:=n0_;have z01:=n1_;have HB:=n2_;clear n0_ n1_ n2_;(try clear hb)
                    (try clear hb2)
                    (try clear hk)
                    (try clear hi)
                    refine hK.out _ _ ⟨(zC z00.out 0).trans rfl,(zC z00.out 1).trans rfl,(zC z00.out 2).trans rfl,(zC z00.out 3).trans rfl,(zC z00.out 4).trans rfl,(zC z00.out 5).trans rfl,(zC z00.out 6).trans rfl,(zC z00.out 7).trans rfl,(zC z00.out 8).trans rfl,(zC z00.out 9).trans rfl,(zC z00.out 10).trans rfl,(zC z00.out 11).trans rfl,(zC z00.out 12).trans rfl,(zC z00.out 13).trans rfl,(zC z00.out 14).trans rfl,(zC z00.out 15).trans rfl,(zC z01.out 0).trans rfl,(zC z01.out 1).trans rfl,(zC z01.out 2).trans rfl,(zC z01.out 3).trans rfl,(zC z01.out 4).trans rfl,(zC z01.out 5).trans rfl,(zC z01.out 6).trans rfl,(zC z01.out 7).trans rfl,(zC z01.out 8).trans rfl,(zC z01.out 9).trans rfl,(zC z01.out 10).trans rfl,(zC z01.out 11).trans rfl,(zC z01.out 12).trans rfl,(zC z01.out 13).trans rfl,(zC z01.out 14).trans rfl,(zC z01.out 15).trans rfl⟩ (fun hHeld => ?_);clear hK K;refine norm_ (a':=?_) ?_ ?_;rotate_left
                    ·
                     show Act.put _ (some 96) _ = _
                     simp only [Act.put,sA,sB,sC,i64_w,i32_w];rfl
                    refine one_ (i:=53) (N:=some 97) #[true,true,true,true,true,true,true,true,true,true,true,true,true,true,true,true,true,true,true,true,true,true,true,true,true,true,true,true,true,true,true,true,true,true,true,true,true,true,true,true,true,true,true,true,true,true,true,true,true,true,true,true,true,true,false,false,false] rfl rfl (one_of HT_.out (by kernel_rfl)) (by decide) (fun K hK => ?_);refine goes_ Try.func20 (by kernel_rfl) rfl #[] (by rfl) rfl rfl (by (try simp only [List.map_toArray,List.map_cons,List.map_nil]);first|done|rfl|(simp only [List.length_drop,List.length_take];rfl)) ?_;with_reducible refine (carouselref16_Group.calls  z13 _ A25.out).mono ?_
                    rintro e w49 ⟨rfl,hb⟩
                    refine ⟨_,rfl,?_⟩;have n0_:=zM (zB (g:=w.heap.size) (o:=.cells #[.int .i64 a0_0,.int .i64 a0_1,.int .u8 a0_2,.int .u16 a0_3,.int .u16 a0_4,.int .i64 a0_5,.int .i64 a0_6,.int .i64 a0_7,.int .i64 a0_8,.int .i64 a0_9,.int .i64 a0_10,.int .i64 a0_11,.int .i64 a0_12,.int .i64 a0_13,.int .i64 a0_14,.bool a0_15] 24 (0,0)) (by (with_reducible repeat first|apply zN|apply zD|apply zA);exact z00.out) hb);have n1_:=zM (zB (g:=w2.heap.size) (o:=.cells #[.int .i64 z05,.int .i64 z06,.int .u8 z07,.int .u16 z08,.int .u16 z09,.int .i64 z0a,.int .i64 z0b,.int .i64 z0d,.int .i64 z0e,.int .i64 z0f,.int .i64 z0g,.int .i64 z0h,.int .i64 z0i,.int .i64 z0j,.int .i64 z0k,.bool z0m] 25 (0,0)) (by (with_reducible repeat first|apply zN|apply zD|apply zA);exact z01.out) hb);have n2_:=zM (yT (by repeat (first|(with_reducible first|exact HB.out|apply yA|apply yN|apply yD|refine yS ?_ z0c.out|refine yS ?_ z0l.out)|exact HB.out)) hb);clear z00;clear z01;clear HB;have z00:=n0_;have z01:=n1_;have HB:=n2_;clear n0_ n1_ n2_;(try clear hb)
                    (try clear hb2)
                    (try clear hk)
                    (try clear hi)
                    refine hK.out _ _ ⟨(zC z00.out 0).trans rfl,(zC z00.out 1).trans rfl,(zC z00.out 2).trans rfl,(zC z00.out 3).trans rfl,(zC z00.out 4).trans rfl,(zC z00.out 5).trans rfl,(zC z00.out 6).trans rfl,(zC z00.out 7).trans rfl,(zC z00.out 8).trans rfl,(zC z00.out 9).trans rfl,(zC z00.out 10).trans rfl,(zC z00.out 11).trans rfl,(zC z00.out 12).trans rfl,(zC z00.out 13).trans rfl,(zC z00.out 14).trans rfl,(zC z00.out 15).trans rfl,(zC z01.out 0).trans rfl,(zC z01.out 1).trans rfl,(zC z01.out 2).trans rfl,(zC z01.out 3).trans rfl,(zC z01.out 4).trans rfl,(zC z01.out 5).trans rfl,(zC z01.out 6).trans rfl,(zC z01.out 7).trans rfl,(zC z01.out 8).trans rfl,(zC z01.out 9).trans rfl,(zC z01.out 10).trans rfl,(zC z01.out 11).trans rfl,(zC z01.out 12).trans rfl,(zC z01.out 13).trans rfl,(zC z01.out 14).trans rfl,(zC z01.out 15).trans rfl⟩ (fun hHeld => ?_);clear hK K;refine norm_ (a':=?_) ?_ ?_;rotate_left
                    ·
                     show Act.put _ (some 97) _ = _
                     simp only [Act.put,sA,sB,sC,i64_w,i32_w];rfl
                    refine pure_ (i:=54) (N:=some 98) (v:=?_) (a':=?_) #[true,true,true,true,true,true,true,true,true,true,true,true,true,true,true,true,true,true,true,true,true,true,true,true,true,true,true,true,true,true,true,true,true,true,true,true,true,true,true,true,true,true,true,true,true,true,true,true,true,true,true,true,true,true,true,false,false] rfl rfl (any_of HT_.out (by kernel_rfl)) (fun _ _ _ h => h) (Or.inl ⟨by rfl,?_⟩) ?_ ?_;rotate_left
                    ·
                     intro w';go_simp;with_reducible rfl
                    rotate_left
                    ·
                     simp only [Act.put,sA,sB,sC,i64_w,i32_w];rfl
                    refine pure_ (i:=55) (N:=some 99) (v:=?_) (a':=?_) #[true,true,true,true,true,true,true,true,true,true,true,true,true,true,true,true,true,true,true,true,true,true,true,true,true,true,true,true,true,true,true,true,true,true,true,true,true,true,true,true,true,true,true,true,true,true,true,true,true,true,true,true,true,true,true,true,false] rfl rfl (any_of HT_.out (by kernel_rfl)) (fun _ _ _ h => h) (Or.inl ⟨by rfl,?_⟩) ?_ ?_;rotate_left
                    ·
                     intro w';go_simp;with_reducible rfl
                    rotate_left
                    ·
                     simp only [Act.put,sA,sB,sC,i64_w,i32_w];rfl
                    refine pure_ (i:=56) (N:=some 6) (v:=?_) (a':=?_) #[true,true,true,true,true,true,true,true,true,true,true,true,true,true,true,true,true,true,true,true,true,true,true,true,true,true,true,true,true,true,true,true,true,true,true,true,true,true,true,true,true,true,true,true,true,true,true,true,true,true,true,true,true,true,true,true,true] rfl rfl (any_of HT_.out (by kernel_rfl)) (fun _ _ _ h => h) (Or.inl ⟨by rfl,?_⟩) ?_ ?_;rotate_left
                    ·
                     intro w';go_simp;with_reducible rfl
                    rotate_left
                    ·
                     simp only [Act.put,sA,sB,sC,i64_w,i32_w];rfl
                    refine done_ (done_of HT_.out (by kernel_rfl)) ?_;try go_wp2
                    go_ret;exact ⟨by first|rfl|(simp [errW_none,errW_some] <;> rfl)|(simp [*,errW_none,errW_some] <;> rfl),by repeat (first|(with_reducible first|exact HB.out|apply yA|apply yN|apply yD|refine yS ?_ z0c.out|refine yS ?_ z0l.out)|exact HB.out)⟩
        rw [if_neg c23] at H;have c23b0 : (z0s == z0t) = false:=beq_eq_false_iff_ne.mpr c23;have c23b1 : (z0s != z0t) = true:=bne_iff_ne.mpr c23;cases (Option.some.inj H).trans hT
       rw [if_neg c20] at H;have c20b0 : (z0z == z11) = false:=beq_eq_false_iff_ne.mpr c20;have c20b1 : (z0z != z11) = true:=bne_iff_ne.mpr c20;cases (Option.some.inj H).trans hT
      rw [if_neg c19] at H;have c19b0 : (z0y == z10) = false:=beq_eq_false_iff_ne.mpr c19;have c19b1 : (z0y != z10) = true:=bne_iff_ne.mpr c19;cases (Option.some.inj H).trans hT
     rw [if_neg c18] at H;have c18b0 : (z0v == z0x) = false:=beq_eq_false_iff_ne.mpr c18;have c18b1 : (z0v != z0x) = true:=bne_iff_ne.mpr c18;cases (Option.some.inj H).trans hT
    rw [if_neg c17] at H;have c17b0 : (z0u == z0w) = false:=beq_eq_false_iff_ne.mpr c17;have c17b1 : (z0u != z0w) = true:=bne_iff_ne.mpr c17;cases (Option.some.inj H).trans hT
   rw [if_neg c16] at H;have c16b0 : (z0q == z0r) = false:=beq_eq_false_iff_ne.mpr c16;have c16b1 : (z0q != z0r) = true:=bne_iff_ne.mpr c16;cases (Option.some.inj H).trans hT
  rw [if_neg c13] at H;have c13b0 : (z0o == z0p) = false:=beq_eq_false_iff_ne.mpr c13;have c13b1 : (z0o != z0p) = true:=bne_iff_ne.mpr c13;cases (Option.some.inj H).trans hT
 replace c10:=Bool.eq_false_iff.mpr c10;subst c10;have H1 : (some false) = some r:=by rw [if_neg (show ¬ (false = true) by decide)] at H;exact H
 clear H;have H:=H1;clear H1;cases (Option.some.inj H).trans hT

/-- THE ONE PURE STATEMENT of carousellaw16_PlanTells: yours. -/
def carousellaw16_PlanTells.Pure : Prop := ∀ (a0_0 : Int) (a0_1 : Int) (a0_2 : Int) (a0_3 : Int) (a0_4 : Int) (a0_5 : Int) (a0_6 : Int) (a0_7 : Int) (a0_8 : Int) (a0_9 : Int) (a0_10 : Int) (a0_11 : Int) (a0_12 : Int) (a0_13 : Int) (a0_14 : Int) (a0_15 : Bool) (a1 : Int) (a2 : Int), (Lit.int .i64 a0_0).wf = true → (Lit.int .i64 a0_1).wf = true → (Lit.int .u8 a0_2).wf = true → (Lit.int .u16 a0_3).wf = true → (Lit.int .u16 a0_4).wf = true → (Lit.int .i64 a0_5).wf = true → (Lit.int .i64 a0_6).wf = true → (Lit.int .i64 a0_7).wf = true → (Lit.int .i64 a0_8).wf = true → (Lit.int .i64 a0_9).wf = true → (Lit.int .i64 a0_10).wf = true → (Lit.int .i64 a0_11).wf = true → (Lit.int .i64 a0_12).wf = true → (Lit.int .i64 a0_13).wf = true → (Lit.int .i64 a0_14).wf = true → (Lit.int .i64 a1).wf = true → (Lit.int .i64 a2).wf = true → ∃ k, carousellaw16_PlanTells.f k a0_0 a0_1 a0_2 a0_3 a0_4 a0_5 a0_6 a0_7 a0_8 a0_9 a0_10 a0_11 a0_12 a0_13 a0_14 a0_15 a1 a2 = some true
theorem carousellaw16_PlanTells.walk (P : carousellaw16_PlanTells.Pure) (a0_0 : Int) (a0_1 : Int) (a0_2 : Int) (a0_3 : Int) (a0_4 : Int) (a0_5 : Int) (a0_6 : Int) (a0_7 : Int) (a0_8 : Int) (a0_9 : Int) (a0_10 : Int) (a0_11 : Int) (a0_12 : Int) (a0_13 : Int) (a0_14 : Int) (a0_15 : Bool) (a1 : Int) (a2 : Int) (w : World) (w0_0 : (Lit.int .i64 a0_0).wf = true) (w0_1 : (Lit.int .i64 a0_1).wf = true) (w0_2 : (Lit.int .u8 a0_2).wf = true) (w0_3 : (Lit.int .u16 a0_3).wf = true) (w0_4 : (Lit.int .u16 a0_4).wf = true) (w0_5 : (Lit.int .i64 a0_5).wf = true) (w0_6 : (Lit.int .i64 a0_6).wf = true) (w0_7 : (Lit.int .i64 a0_7).wf = true) (w0_8 : (Lit.int .i64 a0_8).wf = true) (w0_9 : (Lit.int .i64 a0_9).wf = true) (w0_10 : (Lit.int .i64 a0_10).wf = true) (w0_11 : (Lit.int .i64 a0_11).wf = true) (w0_12 : (Lit.int .i64 a0_12).wf = true) (w0_13 : (Lit.int .i64 a0_13).wf = true) (w0_14 : (Lit.int .i64 a0_14).wf = true) (w1_0 : (Lit.int .i64 a1).wf = true) (w2_0 : (Lit.int .i64 a2).wf = true) :
  Calls Try.prog 3 #[.agg #[.int .i64 a0_0, .int .i64 a0_1, .int .u8 a0_2, .int .u16 a0_3, .int .u16 a0_4, .int .i64 a0_5, .int .i64 a0_6, .int .i64 a0_7, .int .i64 a0_8, .int .i64 a0_9, .int .i64 a0_10, .int .i64 a0_11, .int .i64 a0_12, .int .i64 a0_13, .int .i64 a0_14, .bool a0_15], .int .i64 a1, .int .i64 a2] w fun e w' => e = .returned (.bool true) ∧ Below w.heap.size w w' := by
 obtain ⟨k,h⟩:=P a0_0 a0_1 a0_2 a0_3 a0_4 a0_5 a0_6 a0_7 a0_8 a0_9 a0_10 a0_11 a0_12 a0_13 a0_14 a0_15 a1 a2 w0_0 w0_1 w0_2 w0_3 w0_4 w0_5 w0_6 w0_7 w0_8 w0_9 w0_10 w0_11 w0_12 w0_13 w0_14 w1_0 w2_0;refine (carousellaw16_PlanTells.calls k a0_0 a0_1 a0_2 a0_3 a0_4 a0_5 a0_6 a0_7 a0_8 a0_9 a0_10 a0_11 a0_12 a0_13 a0_14 a0_15 a1 a2 true w h rfl).mono ?_;rintro e w' ⟨rfl,hd⟩
 exact ⟨rfl,hd⟩

end Go.Proofs.Ytapicoienpbdfaa.PPlanTells
