-- Written by a program of this work, after the translation.
import Derived.Test.YtapicoienpbdfaaPPlanTellsx0
import Derived.Test.YtapicoienpbdfaaPPlanTellsx1
namespace Go.Proofs.Ytapicoienpbdfaa.PPlanTells
open Go.RowKit Go.Proofs.YtapicoienpbdfaaW.PrintWords Go.Proofs.YtapicoienpbdfaaW.PrintLast Go.Proofs.YtapicoienpbdfaaW.PrintMore
attribute [local go_sem] max2_int min2_int max_two min_two max_three min_three max_four min_four   -- for this text's walks alone
set_option linter.unusedVariables false
set_option linter.unusedSimpArgs false

/-! ### plan_Plan_Check: function 30 -/
mutual
def plan_Plan_Check.j0 : Nat → Bool → Int → Int → Int → Int → Int → Int → Int → Int → Int → Int → Int → Int → Int → Int → Int → Bool → Option (Int)
  | 0, _, _, _, _, _, _, _, _, _, _, _, _, _, _, _, _, _ => none
  | k + 1, x3, x105000, x105001, x105002, x105003, x105004, x105005, x105006, x105007, x105008, x105009, x105010, x105011, x105012, x105013, x105014, x105015 => if x3 = true then (some 4) else (if x105001 < 0 then (plan_Plan_Check.j1 k true x105000 x105001 x105002 x105003 x105004 x105005 x105006 x105007 x105008 x105009 x105010 x105011 x105012 x105013 x105014 x105015) else (if x105001 ≥ x105000 then (plan_Plan_Check.j1 k true x105000 x105001 x105002 x105003 x105004 x105005 x105006 x105007 x105008 x105009 x105010 x105011 x105012 x105013 x105014 x105015) else (plan_Plan_Check.j1 k (decide (x105002 > 7)) x105000 x105001 x105002 x105003 x105004 x105005 x105006 x105007 x105008 x105009 x105010 x105011 x105012 x105013 x105014 x105015)))
def plan_Plan_Check.j1 : Nat → Bool → Int → Int → Int → Int → Int → Int → Int → Int → Int → Int → Int → Int → Int → Int → Int → Bool → Option (Int)
  | 0, _, _, _, _, _, _, _, _, _, _, _, _, _, _, _, _, _ => none
  | k + 1, x12, x105000, x105001, x105002, x105003, x105004, x105005, x105006, x105007, x105008, x105009, x105010, x105011, x105012, x105013, x105014, x105015 => if x12 = true then (some 4) else ((plan_vlan.f x105003).bind fun t105 => (if t105 = true then ((plan_vlan.f x105004).bind fun t106 => (if t106 = true then (plan_Plan_Check.j2 k (x105003 == x105004) x105000 x105001 x105002 x105003 x105004 x105005 x105006 x105007 x105008 x105009 x105010 x105011 x105012 x105013 x105014 x105015) else (plan_Plan_Check.j2 k true x105000 x105001 x105002 x105003 x105004 x105005 x105006 x105007 x105008 x105009 x105010 x105011 x105012 x105013 x105014 x105015))) else (plan_Plan_Check.j2 k true x105000 x105001 x105002 x105003 x105004 x105005 x105006 x105007 x105008 x105009 x105010 x105011 x105012 x105013 x105014 x105015)))
def plan_Plan_Check.j2 : Nat → Bool → Int → Int → Int → Int → Int → Int → Int → Int → Int → Int → Int → Int → Int → Int → Int → Bool → Option (Int)
  | 0, _, _, _, _, _, _, _, _, _, _, _, _, _, _, _, _, _ => none
  | k + 1, x28, x105000, x105001, x105002, x105003, x105004, x105005, x105006, x105007, x105008, x105009, x105010, x105011, x105012, x105013, x105014, x105015 => if x28 = true then (some 5) else ((plan_lengths.f k (([x105005, x105007, x105008, x105009, x105010, x105011, x105012] : List Int))).bind fun t110 => (if t110 = true then (if x105006 < 0 then (plan_Plan_Check.j3 k true x105000 x105001 x105002 x105003 x105004 x105005 x105006 x105007 x105008 x105009 x105010 x105011 x105012 x105013 x105014 x105015) else (plan_Plan_Check.j3 k (decide (x105006 > 1048576)) x105000 x105001 x105002 x105003 x105004 x105005 x105006 x105007 x105008 x105009 x105010 x105011 x105012 x105013 x105014 x105015)) else (plan_Plan_Check.j3 k true x105000 x105001 x105002 x105003 x105004 x105005 x105006 x105007 x105008 x105009 x105010 x105011 x105012 x105013 x105014 x105015)))
def plan_Plan_Check.j3 : Nat → Bool → Int → Int → Int → Int → Int → Int → Int → Int → Int → Int → Int → Int → Int → Int → Int → Bool → Option (Int)
  | 0, _, _, _, _, _, _, _, _, _, _, _, _, _, _, _, _, _ => none
  | k + 1, x46, x105000, x105001, x105002, x105003, x105004, x105005, x105006, x105007, x105008, x105009, x105010, x105011, x105012, x105013, x105014, x105015 => if x46 = true then (some 4) else (if x105013 < 1 then (plan_Plan_Check.j4 k true) else (if x105013 > 1024 then (plan_Plan_Check.j4 k true) else (if x105014 < 1 then (plan_Plan_Check.j4 k true) else (plan_Plan_Check.j4 k (decide (x105014 > 256))))))
def plan_Plan_Check.j4 : Nat → Bool → Option (Int)
  | 0, _ => none
  | k + 1, x74 => if x74 = true then (some 4) else (some 0)
end
def plan_Plan_Check.f (k : Nat) (a0_0 : Int) (a0_1 : Int) (a0_2 : Int) (a0_3 : Int) (a0_4 : Int) (a0_5 : Int) (a0_6 : Int) (a0_7 : Int) (a0_8 : Int) (a0_9 : Int) (a0_10 : Int) (a0_11 : Int) (a0_12 : Int) (a0_13 : Int) (a0_14 : Int) (a0_15 : Bool) : Option (Int) := if a0_0 < 3 then (plan_Plan_Check.j0 k true a0_0 a0_1 a0_2 a0_3 a0_4 a0_5 a0_6 a0_7 a0_8 a0_9 a0_10 a0_11 a0_12 a0_13 a0_14 a0_15) else (plan_Plan_Check.j0 k (decide (a0_0 > 16)) a0_0 a0_1 a0_2 a0_3 a0_4 a0_5 a0_6 a0_7 a0_8 a0_9 a0_10 a0_11 a0_12 a0_13 a0_14 a0_15)
theorem plan_Plan_Check.mono_l : ∀ k, (∀ y0 y1 y2 y3 y4 y5 y6 y7 y8 y9 y10 y11 y12 y13 y14 y15 y16, LeO (plan_Plan_Check.j0 k y0 y1 y2 y3 y4 y5 y6 y7 y8 y9 y10 y11 y12 y13 y14 y15 y16) (plan_Plan_Check.j0 (k + 1) y0 y1 y2 y3 y4 y5 y6 y7 y8 y9 y10 y11 y12 y13 y14 y15 y16)) ∧ (∀ y0 y1 y2 y3 y4 y5 y6 y7 y8 y9 y10 y11 y12 y13 y14 y15 y16, LeO (plan_Plan_Check.j1 k y0 y1 y2 y3 y4 y5 y6 y7 y8 y9 y10 y11 y12 y13 y14 y15 y16) (plan_Plan_Check.j1 (k + 1) y0 y1 y2 y3 y4 y5 y6 y7 y8 y9 y10 y11 y12 y13 y14 y15 y16)) ∧ (∀ y0 y1 y2 y3 y4 y5 y6 y7 y8 y9 y10 y11 y12 y13 y14 y15 y16, LeO (plan_Plan_Check.j2 k y0 y1 y2 y3 y4 y5 y6 y7 y8 y9 y10 y11 y12 y13 y14 y15 y16) (plan_Plan_Check.j2 (k + 1) y0 y1 y2 y3 y4 y5 y6 y7 y8 y9 y10 y11 y12 y13 y14 y15 y16)) ∧ (∀ y0 y1 y2 y3 y4 y5 y6 y7 y8 y9 y10 y11 y12 y13 y14 y15 y16, LeO (plan_Plan_Check.j3 k y0 y1 y2 y3 y4 y5 y6 y7 y8 y9 y10 y11 y12 y13 y14 y15 y16) (plan_Plan_Check.j3 (k + 1) y0 y1 y2 y3 y4 y5 y6 y7 y8 y9 y10 y11 y12 y13 y14 y15 y16)) ∧ (∀ y0, LeO (plan_Plan_Check.j4 k y0) (plan_Plan_Check.j4 (k + 1) y0))
 | 0 => ⟨fun _ _ _ _ _ _ _ _ _ _ _ _ _ _ _ _ _ r h => by simp [plan_Plan_Check.j0] at h, fun _ _ _ _ _ _ _ _ _ _ _ _ _ _ _ _ _ r h => by simp [plan_Plan_Check.j1] at h, fun _ _ _ _ _ _ _ _ _ _ _ _ _ _ _ _ _ r h => by simp [plan_Plan_Check.j2] at h, fun _ _ _ _ _ _ _ _ _ _ _ _ _ _ _ _ _ r h => by simp [plan_Plan_Check.j3] at h, fun _ r h => by simp [plan_Plan_Check.j4] at h⟩
 | k + 1 => by
  obtain ⟨ih0, ih1, ih2, ih3, ih4⟩ := plan_Plan_Check.mono_l k
  refine ⟨?_, ?_, ?_, ?_, ?_⟩
  ·
   intro y0 y1 y2 y3 y4 y5 y6 y7 y8 y9 y10 y11 y12 y13 y14 y15 y16
   unfold plan_Plan_Check.j0
   repeat' first
   | (with_reducible exact ih0 _ _ _ _ _ _ _ _ _ _ _ _ _ _ _ _ _)
   | (with_reducible exact ih1 _ _ _ _ _ _ _ _ _ _ _ _ _ _ _ _ _)
   | (with_reducible exact ih2 _ _ _ _ _ _ _ _ _ _ _ _ _ _ _ _ _)
   | (with_reducible exact ih3 _ _ _ _ _ _ _ _ _ _ _ _ _ _ _ _ _)
   | (with_reducible exact ih4 _)
   | (with_reducible exact plan_lengths.mono _ _)
   | (with_reducible exact LeO.refl _)
   | (with_reducible exact LeO.none _)
   | (with_reducible refine LeO.ite ?_ ?_)
   | (with_reducible refine LeO.bind ?_ (fun _ => ?_))
   | exact ih0 _ _ _ _ _ _ _ _ _ _ _ _ _ _ _ _ _
   | exact ih1 _ _ _ _ _ _ _ _ _ _ _ _ _ _ _ _ _
   | exact ih2 _ _ _ _ _ _ _ _ _ _ _ _ _ _ _ _ _
   | exact ih3 _ _ _ _ _ _ _ _ _ _ _ _ _ _ _ _ _
   | exact ih4 _
   | exact plan_lengths.mono _ _
   | exact LeO.none _
   | refine LeO.ite ?_ ?_
   | refine LeO.bind ?_ (fun _ => ?_)
  ·
   intro y0 y1 y2 y3 y4 y5 y6 y7 y8 y9 y10 y11 y12 y13 y14 y15 y16
   unfold plan_Plan_Check.j1
   repeat' first
   | (with_reducible exact ih0 _ _ _ _ _ _ _ _ _ _ _ _ _ _ _ _ _)
   | (with_reducible exact ih1 _ _ _ _ _ _ _ _ _ _ _ _ _ _ _ _ _)
   | (with_reducible exact ih2 _ _ _ _ _ _ _ _ _ _ _ _ _ _ _ _ _)
   | (with_reducible exact ih3 _ _ _ _ _ _ _ _ _ _ _ _ _ _ _ _ _)
   | (with_reducible exact ih4 _)
   | (with_reducible exact plan_lengths.mono _ _)
   | (with_reducible exact LeO.refl _)
   | (with_reducible exact LeO.none _)
   | (with_reducible refine LeO.ite ?_ ?_)
   | (with_reducible refine LeO.bind ?_ (fun _ => ?_))
   | exact ih0 _ _ _ _ _ _ _ _ _ _ _ _ _ _ _ _ _
   | exact ih1 _ _ _ _ _ _ _ _ _ _ _ _ _ _ _ _ _
   | exact ih2 _ _ _ _ _ _ _ _ _ _ _ _ _ _ _ _ _
   | exact ih3 _ _ _ _ _ _ _ _ _ _ _ _ _ _ _ _ _
   | exact ih4 _
   | exact plan_lengths.mono _ _
   | exact LeO.none _
   | refine LeO.ite ?_ ?_
   | refine LeO.bind ?_ (fun _ => ?_)
  ·
   intro y0 y1 y2 y3 y4 y5 y6 y7 y8 y9 y10 y11 y12 y13 y14 y15 y16
   unfold plan_Plan_Check.j2
   repeat' first
   | (with_reducible exact ih0 _ _ _ _ _ _ _ _ _ _ _ _ _ _ _ _ _)
   | (with_reducible exact ih1 _ _ _ _ _ _ _ _ _ _ _ _ _ _ _ _ _)
   | (with_reducible exact ih2 _ _ _ _ _ _ _ _ _ _ _ _ _ _ _ _ _)
   | (with_reducible exact ih3 _ _ _ _ _ _ _ _ _ _ _ _ _ _ _ _ _)
   | (with_reducible exact ih4 _)
   | (with_reducible exact plan_lengths.mono _ _)
   | (with_reducible exact LeO.refl _)
   | (with_reducible exact LeO.none _)
   | (with_reducible refine LeO.ite ?_ ?_)
   | (with_reducible refine LeO.bind ?_ (fun _ => ?_))
   | exact ih0 _ _ _ _ _ _ _ _ _ _ _ _ _ _ _ _ _
   | exact ih1 _ _ _ _ _ _ _ _ _ _ _ _ _ _ _ _ _
   | exact ih2 _ _ _ _ _ _ _ _ _ _ _ _ _ _ _ _ _
   | exact ih3 _ _ _ _ _ _ _ _ _ _ _ _ _ _ _ _ _
   | exact ih4 _
   | exact plan_lengths.mono _ _
   | exact LeO.none _
   | refine LeO.ite ?_ ?_
   | refine LeO.bind ?_ (fun _ => ?_)
  ·
   intro y0 y1 y2 y3 y4 y5 y6 y7 y8 y9 y10 y11 y12 y13 y14 y15 y16
   unfold plan_Plan_Check.j3
   repeat' first
   | (with_reducible exact ih0 _ _ _ _ _ _ _ _ _ _ _ _ _ _ _ _ _)
   | (with_reducible exact ih1 _ _ _ _ _ _ _ _ _ _ _ _ _ _ _ _ _)
   | (with_reducible exact ih2 _ _ _ _ _ _ _ _ _ _ _ _ _ _ _ _ _)
   | (with_reducible exact ih3 _ _ _ _ _ _ _ _ _ _ _ _ _ _ _ _ _)
   | (with_reducible exact ih4 _)
   | (with_reducible exact plan_lengths.mono _ _)
   | (with_reducible exact LeO.refl _)
   | (with_reducible exact LeO.none _)
   | (with_reducible refine LeO.ite ?_ ?_)
   | (with_reducible refine LeO.bind ?_ (fun _ => ?_))
   | exact ih0 _ _ _ _ _ _ _ _ _ _ _ _ _ _ _ _ _
   | exact ih1 _ _ _ _ _ _ _ _ _ _ _ _ _ _ _ _ _
   | exact ih2 _ _ _ _ _ _ _ _ _ _ _ _ _ _ _ _ _
   | exact ih3 _ _ _ _ _ _ _ _ _ _ _ _ _ _ _ _ _
   | exact ih4 _
   | exact plan_lengths.mono _ _
   | exact LeO.none _
   | refine LeO.ite ?_ ?_
   | refine LeO.bind ?_ (fun _ => ?_)
  intro y0
  unfold plan_Plan_Check.j4
  repeat' first
  | (with_reducible exact ih0 _ _ _ _ _ _ _ _ _ _ _ _ _ _ _ _ _)
  | (with_reducible exact ih1 _ _ _ _ _ _ _ _ _ _ _ _ _ _ _ _ _)
  | (with_reducible exact ih2 _ _ _ _ _ _ _ _ _ _ _ _ _ _ _ _ _)
  | (with_reducible exact ih3 _ _ _ _ _ _ _ _ _ _ _ _ _ _ _ _ _)
  | (with_reducible exact ih4 _)
  | (with_reducible exact plan_lengths.mono _ _)
  | (with_reducible exact LeO.refl _)
  | (with_reducible exact LeO.none _)
  | (with_reducible refine LeO.ite ?_ ?_)
  | (with_reducible refine LeO.bind ?_ (fun _ => ?_))
  | exact ih0 _ _ _ _ _ _ _ _ _ _ _ _ _ _ _ _ _
  | exact ih1 _ _ _ _ _ _ _ _ _ _ _ _ _ _ _ _ _
  | exact ih2 _ _ _ _ _ _ _ _ _ _ _ _ _ _ _ _ _
  | exact ih3 _ _ _ _ _ _ _ _ _ _ _ _ _ _ _ _ _
  | exact ih4 _
  | exact plan_lengths.mono _ _
  | exact LeO.none _
  | refine LeO.ite ?_ ?_
  | refine LeO.bind ?_ (fun _ => ?_)
theorem plan_Plan_Check.mono : ∀ a0 a1 a2 a3 a4 a5 a6 a7 a8 a9 a10 a11 a12 a13 a14 a15 k, LeO (plan_Plan_Check.f k a0 a1 a2 a3 a4 a5 a6 a7 a8 a9 a10 a11 a12 a13 a14 a15) (plan_Plan_Check.f (k + 1) a0 a1 a2 a3 a4 a5 a6 a7 a8 a9 a10 a11 a12 a13 a14 a15) := by
 intro a0 a1 a2 a3 a4 a5 a6 a7 a8 a9 a10 a11 a12 a13 a14 a15 k;obtain ⟨ih0,ih1,ih2,ih3,ih4⟩:=plan_Plan_Check.mono_l k;unfold plan_Plan_Check.f
 repeat' first
  | (with_reducible exact ih0 _ _ _ _ _ _ _ _ _ _ _ _ _ _ _ _ _)
  | (with_reducible exact ih1 _ _ _ _ _ _ _ _ _ _ _ _ _ _ _ _ _)
  | (with_reducible exact ih2 _ _ _ _ _ _ _ _ _ _ _ _ _ _ _ _ _)
  | (with_reducible exact ih3 _ _ _ _ _ _ _ _ _ _ _ _ _ _ _ _ _)
  | (with_reducible exact ih4 _)
  | (with_reducible exact plan_lengths.mono _ _)
  | (with_reducible exact LeO.refl _)
  | (with_reducible exact LeO.none _)
  | (with_reducible refine LeO.ite ?_ ?_)
  | (with_reducible refine LeO.bind ?_ (fun _ => ?_))
  | exact ih0 _ _ _ _ _ _ _ _ _ _ _ _ _ _ _ _ _
  | exact ih1 _ _ _ _ _ _ _ _ _ _ _ _ _ _ _ _ _
  | exact ih2 _ _ _ _ _ _ _ _ _ _ _ _ _ _ _ _ _
  | exact ih3 _ _ _ _ _ _ _ _ _ _ _ _ _ _ _ _ _
  | exact ih4 _
  | exact plan_lengths.mono _ _
  | exact LeO.none _
  | refine LeO.ite ?_ ?_
  | refine LeO.bind ?_ (fun _ => ?_)
set_option maxHeartbeats 8000000 in
set_option maxRecDepth 100000 in
theorem plan_Plan_Check.calls (k : Nat) (a0_0 : Int) (a0_1 : Int) (a0_2 : Int) (a0_3 : Int) (a0_4 : Int) (a0_5 : Int) (a0_6 : Int) (a0_7 : Int) (a0_8 : Int) (a0_9 : Int) (a0_10 : Int) (a0_11 : Int) (a0_12 : Int) (a0_13 : Int) (a0_14 : Int) (a0_15 : Bool) (r : Int) (w : World) (h : plan_Plan_Check.f k a0_0 a0_1 a0_2 a0_3 a0_4 a0_5 a0_6 a0_7 a0_8 a0_9 a0_10 a0_11 a0_12 a0_13 a0_14 a0_15 = some r) :
  Calls Try.prog 30 #[.agg #[.int .i64 a0_0, .int .i64 a0_1, .int .u8 a0_2, .int .u16 a0_3, .int .u16 a0_4, .int .i64 a0_5, .int .i64 a0_6, .int .i64 a0_7, .int .i64 a0_8, .int .i64 a0_9, .int .i64 a0_10, .int .i64 a0_11, .int .i64 a0_12, .int .i64 a0_13, .int .i64 a0_14, .bool a0_15]] w fun e w' => e = .returned (.int .i64 r) ∧ Below w.heap.size w w' := by
 have hu24:=Try.underlying24;have HB:=zM (Below.refl w.heap.size w);have H : (if a0_0 < 3 then (plan_Plan_Check.j0 k true a0_0 a0_1 a0_2 a0_3 a0_4 a0_5 a0_6 a0_7 a0_8 a0_9 a0_10 a0_11 a0_12 a0_13 a0_14 a0_15) else (plan_Plan_Check.j0 k (decide (a0_0 > 16)) a0_0 a0_1 a0_2 a0_3 a0_4 a0_5 a0_6 a0_7 a0_8 a0_9 a0_10 a0_11 a0_12 a0_13 a0_14 a0_15)) = some r:=h;clear h;have HC2:=zM H;clear H;go_enter Try.func30,Try.ntmps30
 go_upto_region 1 with (first|((with_reducible refine gate_dst (N:=1) rfl ?_);refine box_event ?hg (N:=1) ?hd (cs:=#[.int .i64 a0_0,.int .i64 a0_1,.int .u8 a0_2,.int .u16 a0_3,.int .u16 a0_4,.int .i64 a0_5,.int .i64 a0_6,.int .i64 a0_7,.int .i64 a0_8,.int .i64 a0_9,.int .i64 a0_10,.int .i64 a0_11,.int .i64 a0_12,.int .i64 a0_13,.int .i64 a0_14,.bool a0_15]) (t:=24) ?hr ?_;(case hd => rfl);(case hg => rfl);(case hr => first|(go_simp;done)|(go_simp;rfl));intro z1j hg w3 hbox hb;have n0_:=zM (yT (by repeat first|(with_reducible first|exact HB.out|apply yA|apply yN|apply yD)|exact HB.out) hb);have n1_:=zM (hbox);have n2_:=zM ((by rw [hg];exact (yZ (by repeat first|(with_reducible first|exact HB.out|apply yA|apply yN|apply yD)|exact HB.out)) : w.heap.size ≤ z1j));have n3_:=zM ((by rw [hg];exact (yZ (by repeat first|(with_reducible first|exact HB.out|apply yA|apply yN|apply yD)|exact HB.out)) : w.heap.size ≤ z1j));clear HB;have HB:=n0_;have z00:=n1_;have zfe:=n2_;have z01:=n3_;clear n0_ n1_ n2_ n3_;clear hb hbox hg))
 (try simp only [Act.put,sA,sB,sC])
 go_cut [3] (fun v3 wc => ∃ (kq : Nat) (x3_1 : Bool),v3 = .bool x3_1 ∧ Aside0 (plan_Plan_Check.j0 kq x3_1 a0_0 a0_1 a0_2 a0_3 a0_4 a0_5 a0_6 a0_7 a0_8 a0_9 a0_10 a0_11 a0_12 a0_13 a0_14 a0_15 = some r) ∧ Aside0 (kq ≤ k) ∧ Aside0 (wc.heap[z1j]? = some (.cells #[.int .i64 a0_0,.int .i64 a0_1,.int .u8 a0_2,.int .u16 a0_3,.int .u16 a0_4,.int .i64 a0_5,.int .i64 a0_6,.int .i64 a0_7,.int .i64 a0_8,.int .i64 a0_9,.int .i64 a0_10,.int .i64 a0_11,.int .i64 a0_12,.int .i64 a0_13,.int .i64 a0_14,.bool a0_15] 24 (0,0))) ∧ Aside0 (Below w.heap.size w wc))
 case first =>
  have H:=HC2.out;clear HC2;by_cases c4 : a0_0 < 3
  ·
   rw [if_pos c4] at H;have c4b0 : decide (a0_0 < 3) = true:=dT c4;clear c4;(first|rw [c4b0]|(simp only [i64_w,i32_w];rw [c4b0])|skip)
   have H':=zM H;clear H;obtain ⟨z44,z45,z46,z47,z48,z49,z4a,z4b,z4c,z4d,z0u,z0v,z0w,z0x,z0y,z0z,z4e,z4f,z4g,z4h,z4i,z4j,z4k,z4l,z4m,z4n,z10,z11,z12,z13,z14,z15⟩:=kc16 z00.out;go_wp2;go_meet
   case rel => exact ⟨_,(true),(by first|rfl|(simp;done)|(simp [*];done)),H',⟨by first|omega|exact Nat.le_refl _⟩,⟨by (with_reducible repeat first|apply zN|apply zD|apply zA);exact z00.out⟩,⟨by repeat first|(with_reducible first|exact HB.out|apply yA|apply yN|apply yD|refine yS ?_ z01.out)|exact HB.out⟩⟩
  rw [if_neg c4] at H;have c4b0 : decide (a0_0 < 3) = false:=dF c4;clear c4;(first|rw [c4b0]|(simp only [i64_w,i32_w];rw [c4b0])|skip)
  have H':=zM H;clear H;obtain ⟨z4o,z4p,z4q,z4r,z4s,z4t,z4u,z4v,z4w,z4x,z16,z17,z18,z19,z1a,z1b,z4y,z4z,z50,z51,z52,z53,z54,z55,z56,z57,z1c,z1d,z1e,z1f,z1g,z1h⟩:=kc16 z00.out;go_wp2;go_meet
  case rel => exact ⟨_,(decide (a0_0 > 16)),(by first|rfl|(simp;done)|(simp [*];done)),H',⟨by first|omega|exact Nat.le_refl _⟩,⟨by (with_reducible repeat first|apply zN|apply zD|apply zA);exact z00.out⟩,⟨by repeat first|(with_reducible first|exact HB.out|apply yA|apply yN|apply yD|refine yS ?_ z01.out)|exact HB.out⟩⟩
 case rest =>
  clear HC2;try clear p2
  try clear c3
  try clear c4
  try clear c4b0
  try clear z44
  try clear z45
  try clear z0u
  try clear z0v
  try clear z0w
  try clear z0x
  try clear z0y
  try clear z0z
  try clear z46
  try clear z47
  try clear z48
  try clear z49
  try clear z4a
  try clear z4b
  try clear z4c
  try clear z4d
  try clear z4o
  try clear z4p
  try clear z16
  try clear z17
  try clear z18
  try clear z19
  try clear z1a
  try clear z1b
  try clear z4q
  try clear z4r
  try clear z4s
  try clear z4t
  try clear z4u
  try clear z4v
  try clear z4w
  try clear z4x
  try clear z4e
  try clear z4f
  try clear z10
  try clear z11
  try clear z12
  try clear z13
  try clear z14
  try clear z15
  try clear z4g
  try clear z4h
  try clear z4i
  try clear z4j
  try clear z4k
  try clear z4l
  try clear z4m
  try clear z4n
  try clear z4y
  try clear z4z
  try clear z1c
  try clear z1d
  try clear z1e
  try clear z1f
  try clear z1g
  try clear z1h
  try clear z50
  try clear z51
  try clear z52
  try clear z53
  try clear z54
  try clear z55
  try clear z56
  try clear z57
  obtain ⟨kq,x3_1,rfl,HA,HJ1,z00,HB⟩:=hcut;cases kq with
 | zero => exact absurd HA.out (by simp [plan_Plan_Check.j0])
 | succ kj1 =>
   have H:=HA.out;clear HA;simp only [plan_Plan_Check.j0] at H;by_cases c7 : x3_1 = true
   ·
    subst c7;have H1 : (some 4) = some r:=by rw [if_pos rfl] at H;exact H
    clear H;have H:=H1;clear H1;obtain rfl:=Option.some.inj H;go_wp2;go_ret;exact ⟨by first|rfl|(simp [errW_none,errW_some] <;> rfl)|(simp [*,errW_none,errW_some] <;> rfl),by repeat first|(with_reducible first|exact HB.out|apply yA|apply yN|apply yD|refine yS ?_ z01.out)|exact HB.out⟩
   replace c7:=Bool.eq_false_iff.mpr c7;subst c7;have H1 : (if a0_1 < 0 then (plan_Plan_Check.j1 kj1 true a0_0 a0_1 a0_2 a0_3 a0_4 a0_5 a0_6 a0_7 a0_8 a0_9 a0_10 a0_11 a0_12 a0_13 a0_14 a0_15) else (if a0_1 ≥ a0_0 then (plan_Plan_Check.j1 kj1 true a0_0 a0_1 a0_2 a0_3 a0_4 a0_5 a0_6 a0_7 a0_8 a0_9 a0_10 a0_11 a0_12 a0_13 a0_14 a0_15) else (plan_Plan_Check.j1 kj1 (decide (a0_2 > 7)) a0_0 a0_1 a0_2 a0_3 a0_4 a0_5 a0_6 a0_7 a0_8 a0_9 a0_10 a0_11 a0_12 a0_13 a0_14 a0_15))) = some r:=by rw [if_neg (show ¬ (false = true) by decide)] at H;exact H
   clear H;have H:=H1;clear H1;have HC8:=zM H;clear H;go_upto_region 2 with (fail)
   go_cut [12] (fun v12 wc => ∃ (kq : Nat) (x12_7 : Bool),v12 = .bool x12_7 ∧ Aside0 (plan_Plan_Check.j1 kq x12_7 a0_0 a0_1 a0_2 a0_3 a0_4 a0_5 a0_6 a0_7 a0_8 a0_9 a0_10 a0_11 a0_12 a0_13 a0_14 a0_15 = some r) ∧ Aside0 (kq ≤ kj1) ∧ Aside0 (wc.heap[z1j]? = some (.cells #[.int .i64 a0_0,.int .i64 a0_1,.int .u8 a0_2,.int .u16 a0_3,.int .u16 a0_4,.int .i64 a0_5,.int .i64 a0_6,.int .i64 a0_7,.int .i64 a0_8,.int .i64 a0_9,.int .i64 a0_10,.int .i64 a0_11,.int .i64 a0_12,.int .i64 a0_13,.int .i64 a0_14,.bool a0_15] 24 (0,0))) ∧ Aside0 (Below w.heap.size w wc))
   case first =>
    have H:=HC8.out;clear HC8;by_cases c9 : a0_1 < 0
    ·
     rw [if_pos c9] at H;have c9b0 : decide (a0_1 < 0) = true:=dT c9;clear c9;(first|rw [c9b0]|(simp only [i64_w,i32_w];rw [c9b0])|skip)
     have H':=zM H;clear H;obtain ⟨z58,z59,z5a,z5b,z5c,z5d,z5e,z5f,z5g,z5h,z1k,z1l,z1m,z1n,z1o,z1p,z1q,z1r,z1s,z1t,z1u,z1v,z1w,z1x,z1y,z1z,z02,z03,z04,z05,z06,z07⟩:=kc16 z00.out;go_wp2;go_meet
     case rel => exact ⟨_,(true),(by first|rfl|(simp;done)|(simp [*];done)),H',⟨by have:=HJ1.out;first|omega|exact Nat.le_refl _⟩,⟨by (with_reducible repeat first|apply zN|apply zD|apply zA);exact z00.out⟩,⟨by repeat first|(with_reducible first|exact HB.out|apply yA|apply yN|apply yD|refine yS ?_ z01.out)|exact HB.out⟩⟩
    rw [if_neg c9] at H;have c9b0 : decide (a0_1 < 0) = false:=dF c9;clear c9;(first|rw [c9b0]|(simp only [i64_w,i32_w];rw [c9b0])|skip)
    by_cases c11 : a0_1 ≥ a0_0
    ·
     rw [if_pos c11] at H;have c11b0 : decide (a0_0 ≤ a0_1) = true:=dT c11;clear c11;have H':=zM H;clear H;obtain ⟨z5i,z5j,z20,z21,z22,z23,z24,z25,z26,z27,z28,z29,z08,z09,z0a,z0b,z2a,z2b,z2c,z2d,z2e,z2f,z2g,z2h,z2i,z2j,z0c,z0d,z0e,z0f,z0g,z0h⟩:=kc16 z00.out;go_wp2;go_meet
     case rel => exact ⟨_,(true),(by first|rfl|(simp;done)|(simp [*];done)),H',⟨by have:=HJ1.out;first|omega|exact Nat.le_refl _⟩,⟨by (with_reducible repeat first|apply zN|apply zD|apply zA);exact z00.out⟩,⟨by repeat first|(with_reducible first|exact HB.out|apply yA|apply yN|apply yD|refine yS ?_ z01.out)|exact HB.out⟩⟩
    rw [if_neg c11] at H;have c11b0 : decide (a0_0 ≤ a0_1) = false:=dF c11;clear c11;have H':=zM H;clear H;obtain ⟨z2k,z2l,z2m,z2n,z2o,z2p,z2q,z2r,z2s,z2t,z0i,z0j,z0k,z0l,z0m,z0n,z2u,z2v,z2w,z2x,z2y,z2z,z30,z31,z32,z33,z0o,z0p,z0q,z0r,z0s,z0t⟩:=kc16 z00.out;go_wp2;go_meet
    case rel => exact ⟨_,(decide (a0_2 > 7)),(by first|rfl|(simp;done)|(simp [*];done)),H',⟨by have:=HJ1.out;first|omega|exact Nat.le_refl _⟩,⟨by (with_reducible repeat first|apply zN|apply zD|apply zA);exact z00.out⟩,⟨by repeat first|(with_reducible first|exact HB.out|apply yA|apply yN|apply yD|refine yS ?_ z01.out)|exact HB.out⟩⟩
   case rest =>
    clear HC8;try clear c1
    try clear p2
    try clear c3
    try clear c4
    try clear c4b0
    try clear c7
    try clear c9
    try clear c9b0
    try clear c11
    try clear c11b0
    try clear z58
    try clear z59
    try clear z1k
    try clear z1l
    try clear z1m
    try clear z1n
    try clear z1o
    try clear z1p
    try clear z5a
    try clear z5b
    try clear z5c
    try clear z5d
    try clear z5e
    try clear z5f
    try clear z5g
    try clear z5h
    try clear z5i
    try clear z5j
    try clear z28
    try clear z29
    try clear z08
    try clear z09
    try clear z0a
    try clear z0b
    try clear z20
    try clear z21
    try clear z22
    try clear z23
    try clear z24
    try clear z25
    try clear z26
    try clear z27
    try clear z2k
    try clear z2l
    try clear z0i
    try clear z0j
    try clear z0k
    try clear z0l
    try clear z0m
    try clear z0n
    try clear z2m
    try clear z2n
    try clear z2o
    try clear z2p
    try clear z2q
    try clear z2r
    try clear z2s
    try clear z2t
    try clear z44
    try clear z45
    try clear z0u
    try clear z0v
    try clear z0w
    try clear z0x
    try clear z0y
    try clear z0z
    try clear z46
    try clear z47
    try clear z48
    try clear z49
    try clear z4a
    try clear z4b
    try clear z4c
    try clear z4d
    try clear z4o
    try clear z4p
    try clear z16
    try clear z17
    try clear z18
    try clear z19
    try clear z1a
    try clear z1b
    try clear z4q
    try clear z4r
    try clear z4s
    try clear z4t
    try clear z4u
    try clear z4v
    try clear z4w
    try clear z4x
    try clear z1q
    try clear z1r
    try clear z02
    try clear z03
    try clear z04
    try clear z05
    try clear z06
    try clear z07
    try clear z1s
    try clear z1t
    try clear z1u
    try clear z1v
    try clear z1w
    try clear z1x
    try clear z1y
    try clear z1z
    try clear z2a
    try clear z2b
    try clear z0c
    try clear z0d
    try clear z0e
    try clear z0f
    try clear z0g
    try clear z0h
    try clear z2c
    try clear z2d
    try clear z2e
    try clear z2f
    try clear z2g
    try clear z2h
    try clear z2i
    try clear z2j
    try clear z2u
    try clear z2v
    try clear z0o
    try clear z0p
    try clear z0q
    try clear z0r
    try clear z0s
    try clear z0t
    try clear z2w
    try clear z2x
    try clear z2y
    try clear z2z
    try clear z30
    try clear z31
    try clear z32
    try clear z33
    try clear z4e
    try clear z4f
    try clear z10
    try clear z11
    try clear z12
    try clear z13
    try clear z14
    try clear z15
    try clear z4g
    try clear z4h
    try clear z4i
    try clear z4j
    try clear z4k
    try clear z4l
    try clear z4m
    try clear z4n
    try clear z4y
    try clear z4z
    try clear z1c
    try clear z1d
    try clear z1e
    try clear z1f
    try clear z1g
    try clear z1h
    try clear z50
    try clear z51
    try clear z52
    try clear z53
    try clear z54
    try clear z55
    try clear z56
    try clear z57
    try clear p2
    obtain ⟨kq,x12_7,rfl,HA,HJ7,z00,HB⟩:=hcut;cases kq with
   | zero => exact absurd HA.out (by simp [plan_Plan_Check.j1])
   | succ kj7 =>
     have H:=HA.out;clear HA;simp only [plan_Plan_Check.j1] at H;by_cases c14 : x12_7 = true
     ·
      subst c14;have H1 : (some 4) = some r:=by rw [if_pos rfl] at H;exact H
      clear H;have H:=H1;clear H1;obtain rfl:=Option.some.inj H;go_wp2;go_ret;exact ⟨by first|rfl|(simp [errW_none,errW_some] <;> rfl)|(simp [*,errW_none,errW_some] <;> rfl),by repeat first|(with_reducible first|exact HB.out|apply yA|apply yN|apply yD|refine yS ?_ z01.out)|exact HB.out⟩
     replace c14:=Bool.eq_false_iff.mpr c14;subst c14;have H1 : ((plan_vlan.f a0_3).bind fun zfa => (if zfa = true then ((plan_vlan.f a0_4).bind fun zf8 => (if zf8 = true then (plan_Plan_Check.j2 kj7 (a0_3 == a0_4) a0_0 a0_1 a0_2 a0_3 a0_4 a0_5 a0_6 a0_7 a0_8 a0_9 a0_10 a0_11 a0_12 a0_13 a0_14 a0_15) else (plan_Plan_Check.j2 kj7 true a0_0 a0_1 a0_2 a0_3 a0_4 a0_5 a0_6 a0_7 a0_8 a0_9 a0_10 a0_11 a0_12 a0_13 a0_14 a0_15))) else (plan_Plan_Check.j2 kj7 true a0_0 a0_1 a0_2 a0_3 a0_4 a0_5 a0_6 a0_7 a0_8 a0_9 a0_10 a0_11 a0_12 a0_13 a0_14 a0_15))) = some r:=by rw [if_neg (show ¬ (false = true) by decide)] at H;exact H
     clear H;have H:=H1;clear H1;have zfb:=zM H;clear H;go_upto_region 3 with (fail)
     go_cut [28] (fun v28 wc => ∃ (kq : Nat) (x28_14 : Bool),v28 = .bool x28_14 ∧ Aside0 (plan_Plan_Check.j2 kq x28_14 a0_0 a0_1 a0_2 a0_3 a0_4 a0_5 a0_6 a0_7 a0_8 a0_9 a0_10 a0_11 a0_12 a0_13 a0_14 a0_15 = some r) ∧ Aside0 (kq ≤ kj7) ∧ Aside0 (wc.heap[z1j]? = some (.cells #[.int .i64 a0_0,.int .i64 a0_1,.int .u8 a0_2,.int .u16 a0_3,.int .u16 a0_4,.int .i64 a0_5,.int .i64 a0_6,.int .i64 a0_7,.int .i64 a0_8,.int .i64 a0_9,.int .i64 a0_10,.int .i64 a0_11,.int .i64 a0_12,.int .i64 a0_13,.int .i64 a0_14,.bool a0_15] 24 (0,0))) ∧ Aside0 (Below w.heap.size w wc))
     case first =>
      have H:=zfb.out;clear zfb;replace H:=Option.bind_eq_some_iff.mp H;obtain ⟨zfa,A160,H⟩:=H;try dsimp only at H
      have A16:=zM A160;clear A160;by_cases c17 : zfa = true
      ·
       subst c17;have H1 : ((plan_vlan.f a0_4).bind fun zf8 => (if zf8 = true then (plan_Plan_Check.j2 kj7 (a0_3 == a0_4) a0_0 a0_1 a0_2 a0_3 a0_4 a0_5 a0_6 a0_7 a0_8 a0_9 a0_10 a0_11 a0_12 a0_13 a0_14 a0_15) else (plan_Plan_Check.j2 kj7 true a0_0 a0_1 a0_2 a0_3 a0_4 a0_5 a0_6 a0_7 a0_8 a0_9 a0_10 a0_11 a0_12 a0_13 a0_14 a0_15))) = some r:=by rw [if_pos rfl] at H;exact H
       clear H;have H:=H1;clear H1;replace H:=Option.bind_eq_some_iff.mp H;obtain ⟨zf8,A180,H⟩:=H;try dsimp only at H
       have A18:=zM A180;clear A180;by_cases c19 : zf8 = true
       ·
        subst c19;have H1 : (plan_Plan_Check.j2 kj7 (a0_3 == a0_4) a0_0 a0_1 a0_2 a0_3 a0_4 a0_5 a0_6 a0_7 a0_8 a0_9 a0_10 a0_11 a0_12 a0_13 a0_14 a0_15) = some r:=by rw [if_pos rfl] at H;exact H
        clear H;have H:=H1;clear H1;have H':=zM H;clear H;obtain ⟨z5k,z5l,z5m,z5n,z5o,z5p,z5q,z5r,z5s,z5t,z34,z35,z36,z37,z38,z39,z5u,z5v,z5w,z5x,z5y,z5z,z60,z61,z62,z63,z3a,z3b,z3c,z3d,z3e,z3f⟩:=kc16 z00.out;go_wp2_with (first|((with_reducible refine gate_callee (f:=48) rfl ?_);refine goesL_ (some 31) rfl rfl Try.func48 (by kernel_rfl) rfl #[.int .u16 a0_3] rfl (by (try simp only [List.map_toArray,List.map_cons,List.map_nil]);first|done|rfl|(simp only [List.length_drop,List.length_take];rfl)) ?_;(with_reducible refine (plan_vlan.calls a0_3 true _ A16.out).mono ?_);rintro e w' ⟨rfl,⟨nd,rfl⟩⟩;refine ⟨_,rfl,?_⟩)|(go_at_call 48;(with_reducible refine (plan_vlan.calls a0_4 true _ A18.out).mono ?_);rintro e w' ⟨rfl,⟨nd,rfl⟩⟩))
        go_meet
        case rel => exact ⟨_,((a0_3 == a0_4)),(by first|rfl|(simp;done)|(simp [*];done)),H',⟨by have:=HJ1.out;have:=HJ7.out;first|omega|exact Nat.le_refl _⟩,⟨by (with_reducible repeat first|apply zN|apply zD|apply zA);exact z00.out⟩,⟨by repeat first|(with_reducible first|exact HB.out|apply yA|apply yN|apply yD|refine yS ?_ z01.out)|exact HB.out⟩⟩
       replace c19:=Bool.eq_false_iff.mpr c19;subst c19;have H1 : (plan_Plan_Check.j2 kj7 true a0_0 a0_1 a0_2 a0_3 a0_4 a0_5 a0_6 a0_7 a0_8 a0_9 a0_10 a0_11 a0_12 a0_13 a0_14 a0_15) = some r:=by rw [if_neg (show ¬ (false = true) by decide)] at H;exact H
       clear H;have H:=H1;clear H1;have H':=zM H;clear H;obtain ⟨z64,z65,z66,z67,z68,z69,z6a,z6b,z6c,z6d,z3g,z3h,z3i,z3j,z3k,z3l,z6e,z6f,z6g,z6h,z6i,z6j,z6k,z6l,z6m,z6n,z3m,z3n,z3o,z3p,z3q,z3r⟩:=kc16 z00.out;go_wp2_with (first|((with_reducible refine gate_callee (f:=48) rfl ?_);refine goesL_ (some 31) rfl rfl Try.func48 (by kernel_rfl) rfl #[.int .u16 a0_3] rfl (by (try simp only [List.map_toArray,List.map_cons,List.map_nil]);first|done|rfl|(simp only [List.length_drop,List.length_take];rfl)) ?_;(with_reducible refine (plan_vlan.calls a0_3 true _ A16.out).mono ?_);rintro e w' ⟨rfl,⟨nd,rfl⟩⟩;refine ⟨_,rfl,?_⟩)|(go_at_call 48;(with_reducible refine (plan_vlan.calls a0_4 false _ A18.out).mono ?_);rintro e w' ⟨rfl,⟨nd,rfl⟩⟩))
       go_meet
       case rel => exact ⟨_,(true),(by first|rfl|(simp;done)|(simp [*];done)),H',⟨by have:=HJ1.out;have:=HJ7.out;first|omega|exact Nat.le_refl _⟩,⟨by (with_reducible repeat first|apply zN|apply zD|apply zA);exact z00.out⟩,⟨by repeat first|(with_reducible first|exact HB.out|apply yA|apply yN|apply yD|refine yS ?_ z01.out)|exact HB.out⟩⟩
      replace c17:=Bool.eq_false_iff.mpr c17;subst c17;have H1 : (plan_Plan_Check.j2 kj7 true a0_0 a0_1 a0_2 a0_3 a0_4 a0_5 a0_6 a0_7 a0_8 a0_9 a0_10 a0_11 a0_12 a0_13 a0_14 a0_15) = some r:=by rw [if_neg (show ¬ (false = true) by decide)] at H;exact H
      clear H;have H:=H1;clear H1;have H':=zM H;clear H;obtain ⟨z6o,z6p,z6q,z6r,z6s,z6t,z6u,z6v,z6w,z6x,z3s,z3t,z3u,z3v,z3w,z3x,z6y,z6z,z70,z71,z72,z73,z74,z75,z76,z77,z3y,z3z,z40,z41,z42,z43⟩:=kc16 z00.out;go_wp2_with (first|((with_reducible refine gate_callee (f:=48) rfl ?_);refine goesL_ (some 31) rfl rfl Try.func48 (by kernel_rfl) rfl #[.int .u16 a0_3] rfl (by (try simp only [List.map_toArray,List.map_cons,List.map_nil]);first|done|rfl|(simp only [List.length_drop,List.length_take];rfl)) ?_;(with_reducible refine (plan_vlan.calls a0_3 false _ A16.out).mono ?_);rintro e w' ⟨rfl,⟨nd,rfl⟩⟩;refine ⟨_,rfl,?_⟩))
      go_meet
      case rel => exact ⟨_,(true),(by first|rfl|(simp;done)|(simp [*];done)),H',⟨by have:=HJ1.out;have:=HJ7.out;first|omega|exact Nat.le_refl _⟩,⟨by (with_reducible repeat first|apply zN|apply zD|apply zA);exact z00.out⟩,⟨by repeat first|(with_reducible first|exact HB.out|apply yA|apply yN|apply yD|refine yS ?_ z01.out)|exact HB.out⟩⟩
     case rest =>
      clear zfb;try clear c1
      try clear p2
      try clear c3
      try clear c4
      try clear c4b0
      try clear c7
      try clear c9
      try clear c9b0
      try clear c11
      try clear c11b0
      try clear c14
      try clear c17
      try clear c19
      try clear z58
      try clear z59
      try clear z1k
      try clear z1l
      try clear z1m
      try clear z1n
      try clear z1o
      try clear z1p
      try clear z5a
      try clear z5b
      try clear z5c
      try clear z5d
      try clear z5e
      try clear z5f
      try clear z5g
      try clear z5h
      try clear z5i
      try clear z5j
      try clear z28
      try clear z29
      try clear z08
      try clear z09
      try clear z0a
      try clear z0b
      try clear z20
      try clear z21
      try clear z22
      try clear z23
      try clear z24
      try clear z25
      try clear z26
      try clear z27
      try clear z2k
      try clear z2l
      try clear z0i
      try clear z0j
      try clear z0k
      try clear z0l
      try clear z0m
      try clear z0n
      try clear z2m
      try clear z2n
      try clear z2o
      try clear z2p
      try clear z2q
      try clear z2r
      try clear z2s
      try clear z2t
      try clear z5k
      try clear z5l
      try clear z34
      try clear z35
      try clear z36
      try clear z37
      try clear z38
      try clear z39
      try clear z5m
      try clear z5n
      try clear z5o
      try clear z5p
      try clear z5q
      try clear z5r
      try clear z5s
      try clear z5t
      try clear z64
      try clear z65
      try clear z3g
      try clear z3h
      try clear z3i
      try clear z3j
      try clear z3k
      try clear z3l
      try clear z66
      try clear z67
      try clear z68
      try clear z69
      try clear z6a
      try clear z6b
      try clear z6c
      try clear z6d
      try clear z6o
      try clear z6p
      try clear z3s
      try clear z3t
      try clear z3u
      try clear z3v
      try clear z3w
      try clear z3x
      try clear z6q
      try clear z6r
      try clear z6s
      try clear z6t
      try clear z6u
      try clear z6v
      try clear z6w
      try clear z6x
      try clear z44
      try clear z45
      try clear z0u
      try clear z0v
      try clear z0w
      try clear z0x
      try clear z0y
      try clear z0z
      try clear z46
      try clear z47
      try clear z48
      try clear z49
      try clear z4a
      try clear z4b
      try clear z4c
      try clear z4d
      try clear z4o
      try clear z4p
      try clear z16
      try clear z17
      try clear z18
      try clear z19
      try clear z1a
      try clear z1b
      try clear z4q
      try clear z4r
      try clear z4s
      try clear z4t
      try clear z4u
      try clear z4v
      try clear z4w
      try clear z4x
      try clear z1q
      try clear z1r
      try clear z02
      try clear z03
      try clear z04
      try clear z05
      try clear z06
      try clear z07
      try clear z1s
      try clear z1t
      try clear z1u
      try clear z1v
      try clear z1w
      try clear z1x
      try clear z1y
      try clear z1z
      try clear z2a
      try clear z2b
      try clear z0c
      try clear z0d
      try clear z0e
      try clear z0f
      try clear z0g
      try clear z0h
      try clear z2c
      try clear z2d
      try clear z2e
      try clear z2f
      try clear z2g
      try clear z2h
      try clear z2i
      try clear z2j
      try clear z2u
      try clear z2v
      try clear z0o
      try clear z0p
      try clear z0q
      try clear z0r
      try clear z0s
      try clear z0t
      try clear z2w
      try clear z2x
      try clear z2y
      try clear z2z
      try clear z30
      try clear z31
      try clear z32
      try clear z33
      try clear z5u
      try clear z5v
      try clear z3a
      try clear z3b
      try clear z3c
      try clear z3d
      try clear z3e
      try clear z3f
      try clear z5w
      try clear z5x
      try clear z5y
      try clear z5z
      try clear z60
      try clear z61
      try clear z62
      try clear z63
      try clear z6e
      try clear z6f
      try clear z3m
      try clear z3n
      try clear z3o
      try clear z3p
      try clear z3q
      try clear z3r
      try clear z6g
      try clear z6h
      try clear z6i
      try clear z6j
      try clear z6k
      try clear z6l
      try clear z6m
      try clear z6n
      try clear z6y
      try clear z6z
      try clear z3y
      try clear z3z
      try clear z40
      try clear z41
      try clear z42
      try clear z43
      try clear z70
      try clear z71
      try clear z72
      try clear z73
      try clear z74
      try clear z75
      try clear z76
      try clear z77
      try clear z4e
      try clear z4f
      try clear z10
      try clear z11
      try clear z12
      try clear z13
      try clear z14
      try clear z15
      try clear z4g
      try clear z4h
      try clear z4i
      try clear z4j
      try clear z4k
      try clear z4l
      try clear z4m
      try clear z4n
      try clear z4y
      try clear z4z
      try clear z1c
      try clear z1d
      try clear z1e
      try clear z1f
      try clear z1g
      try clear z1h
      try clear z50
      try clear z51
      try clear z52
      try clear z53
      try clear z54
      try clear z55
      try clear z56
      try clear z57
      try clear p2
      obtain ⟨kq,x28_14,rfl,HA,HJ14,z00,HB⟩:=hcut;cases kq with
     | zero => exact absurd HA.out (by simp [plan_Plan_Check.j2])
     | succ kj14 =>
       have H:=HA.out;clear HA;simp only [plan_Plan_Check.j2] at H;by_cases c23 : x28_14 = true
       ·
        subst c23;have H1 : (some 5) = some r:=by rw [if_pos rfl] at H;exact H
        clear H;have H:=H1;clear H1;obtain rfl:=Option.some.inj H;go_wp2;go_ret;exact ⟨by first|rfl|(simp [errW_none,errW_some] <;> rfl)|(simp [*,errW_none,errW_some] <;> rfl),by repeat first|(with_reducible first|exact HB.out|apply yA|apply yN|apply yD|refine yS ?_ z01.out)|exact HB.out⟩
       replace c23:=Bool.eq_false_iff.mpr c23;subst c23;have H1 : ((plan_lengths.f kj14 (([a0_5,a0_7,a0_8,a0_9,a0_10,a0_11,a0_12] : List Int))).bind fun zf9 => (if zf9 = true then (if a0_6 < 0 then (plan_Plan_Check.j3 kj14 true a0_0 a0_1 a0_2 a0_3 a0_4 a0_5 a0_6 a0_7 a0_8 a0_9 a0_10 a0_11 a0_12 a0_13 a0_14 a0_15) else (plan_Plan_Check.j3 kj14 (decide (a0_6 > 1048576)) a0_0 a0_1 a0_2 a0_3 a0_4 a0_5 a0_6 a0_7 a0_8 a0_9 a0_10 a0_11 a0_12 a0_13 a0_14 a0_15)) else (plan_Plan_Check.j3 kj14 true a0_0 a0_1 a0_2 a0_3 a0_4 a0_5 a0_6 a0_7 a0_8 a0_9 a0_10 a0_11 a0_12 a0_13 a0_14 a0_15))) = some r:=by rw [if_neg (show ¬ (false = true) by decide)] at H;exact H
       clear H;have H:=H1;clear H1;have zfc:=zM H;clear H;go_upto_region 4 with (fail)
       go_cut [46] (fun v46 wc => ∃ (kq : Nat) (x46_23 : Bool),v46 = .bool x46_23 ∧ Aside0 (plan_Plan_Check.j3 kq x46_23 a0_0 a0_1 a0_2 a0_3 a0_4 a0_5 a0_6 a0_7 a0_8 a0_9 a0_10 a0_11 a0_12 a0_13 a0_14 a0_15 = some r) ∧ Aside0 (kq ≤ kj14) ∧ Aside0 (wc.heap[z1j]? = some (.cells #[.int .i64 a0_0,.int .i64 a0_1,.int .u8 a0_2,.int .u16 a0_3,.int .u16 a0_4,.int .i64 a0_5,.int .i64 a0_6,.int .i64 a0_7,.int .i64 a0_8,.int .i64 a0_9,.int .i64 a0_10,.int .i64 a0_11,.int .i64 a0_12,.int .i64 a0_13,.int .i64 a0_14,.bool a0_15] 24 (0,0))) ∧ Aside0 (Below w.heap.size w wc))
       case first =>
        have H:=zfc.out;clear zfc;obtain ⟨y107,hy107⟩ : ∃ y_ : List Int,y_ = (([a0_5,a0_7,a0_8,a0_9,a0_10,a0_11,a0_12] : List Int)):=⟨_,rfl⟩
        replace H : ((plan_lengths.f kj14 y107).bind fun zf9 => (if zf9 = true then (if a0_6 < 0 then (plan_Plan_Check.j3 kj14 true a0_0 a0_1 a0_2 a0_3 a0_4 a0_5 a0_6 a0_7 a0_8 a0_9 a0_10 a0_11 a0_12 a0_13 a0_14 a0_15) else (plan_Plan_Check.j3 kj14 (decide (a0_6 > 1048576)) a0_0 a0_1 a0_2 a0_3 a0_4 a0_5 a0_6 a0_7 a0_8 a0_9 a0_10 a0_11 a0_12 a0_13 a0_14 a0_15)) else (plan_Plan_Check.j3 kj14 true a0_0 a0_1 a0_2 a0_3 a0_4 a0_5 a0_6 a0_7 a0_8 a0_9 a0_10 a0_11 a0_12 a0_13 a0_14 a0_15))) = some r:=by first|(rw [hy107];with_reducible exact H)|(have H2_:=(Option.bind_some _ _).symm.trans H;rw [hy107];with_reducible exact H2_)|(have H2_:=(Option.bind_some _ _).symm.trans H;with_reducible exact H2_)|with_reducible exact H|(rw [hy107];exact H)|exact H
        have Ny107:=zM hy107;clear hy107;replace H:=Option.bind_eq_some_iff.mp H;obtain ⟨zf9,A250,H⟩:=H;try dsimp only at H
        have A25:=zM A250;clear A250;by_cases c26 : zf9 = true
        ·
         subst c26;have H1 : (if a0_6 < 0 then (plan_Plan_Check.j3 kj14 true a0_0 a0_1 a0_2 a0_3 a0_4 a0_5 a0_6 a0_7 a0_8 a0_9 a0_10 a0_11 a0_12 a0_13 a0_14 a0_15) else (plan_Plan_Check.j3 kj14 (decide (a0_6 > 1048576)) a0_0 a0_1 a0_2 a0_3 a0_4 a0_5 a0_6 a0_7 a0_8 a0_9 a0_10 a0_11 a0_12 a0_13 a0_14 a0_15)) = some r:=by rw [if_pos rfl] at H;exact H
         clear H;have H:=H1;clear H1;by_cases c27 : a0_6 < 0
         ·
          rw [if_pos c27] at H;have c27b0 : decide (a0_6 < 0) = true:=dT c27;clear c27;(first|rw [c27b0]|(simp only [i64_w,i32_w];rw [c27b0])|skip)
          have H':=zM H;clear H;obtain ⟨z8w,z8x,z8y,z8z,z90,z91,z92,z93,z94,z95,z78,z79,z7a,z7b,z7c,z7d,z96,z97,z98,z99,z9a,z9b,z9c,z9d,z9e,z9f,z7e,z7f,z7g,z7h,z7i,z7j⟩:=kc16 z00.out;go_wp2_with (first|((with_reducible refine gate_dst (N:=61) rfl ?_);refine Kd.R_lit (Kd.int .i64) _ 2 ?hg (N:=61) ?hd (xs:=([a0_5,a0_7,a0_8,a0_9,a0_10,a0_11,a0_12] : List Int)) (inner:=[.int .i64 a0_5,.int .i64 a0_7,.int .i64 a0_8,.int .i64 a0_9,.int .i64 a0_10,.int .i64 a0_11,.int .i64 a0_12]) (ok:=fun _ => True) (okp:=fun _ => True) ?hr ?hp (fun _ hk => hk) trivial (Below.refl _ _) (Nat.le_refl _) (by simp) ?_;(case hd => rfl);(case hg => rfl);(case hr => first|(go_simp;done)|(go_simp;rfl));(case hp => exact (Reps.one (show Kd.M (Kd.int .i64) _ _ _ a0_5 [.int .i64 a0_5] from rfl) (Reps.one (show Kd.M (Kd.int .i64) _ _ _ a0_7 [.int .i64 a0_7] from rfl) (Reps.one (show Kd.M (Kd.int .i64) _ _ _ a0_8 [.int .i64 a0_8] from rfl) (Reps.one (show Kd.M (Kd.int .i64) _ _ _ a0_9 [.int .i64 a0_9] from rfl) (Reps.one (show Kd.M (Kd.int .i64) _ _ _ a0_10 [.int .i64 a0_10] from rfl) (Reps.one (show Kd.M (Kd.int .i64) _ _ _ a0_11 [.int .i64 a0_11] from rfl) (Reps.one (show Kd.M (Kd.int .i64) _ _ _ a0_12 [.int .i64 a0_12] from rfl) (Reps.none _ _)))))))));intro v108 w29 ho30 hb hg_ hnew_;clear hg_ hnew_;(first|rw [← Ny107.out] at ho30|(simp only [Int.reduceToNat] at ho30;rw [← Ny107.out] at ho30));have n0_:=zM (Kd.R_lower ho30 (yZ (by repeat first|(with_reducible first|exact HB.out|apply yA|apply yN|apply yD|refine yS ?_ z01.out)|exact HB.out)));have n1_:=zM (zB (g:=z1j) (o:=.cells #[.int .i64 a0_0,.int .i64 a0_1,.int .u8 a0_2,.int .u16 a0_3,.int .u16 a0_4,.int .i64 a0_5,.int .i64 a0_6,.int .i64 a0_7,.int .i64 a0_8,.int .i64 a0_9,.int .i64 a0_10,.int .i64 a0_11,.int .i64 a0_12,.int .i64 a0_13,.int .i64 a0_14,.bool a0_15] 24 (0,0)) (by (with_reducible repeat first|apply zN|apply zD|apply zA);exact z00.out) hb);have n2_:=zM (yT (by repeat first|(with_reducible first|exact HB.out|apply yA|apply yN|apply yD|refine yS ?_ z01.out)|exact HB.out) hb);clear z00;clear HB;have z1i:=n0_;have z00:=n1_;have HB:=n2_;clear n0_ n1_ n2_;clear hb ho30;obtain ⟨Ao31,co31,eo31⟩:=Kd.R_slice z1i.out;subst eo31)|((with_reducible refine gate_callee (f:=49) rfl ?_);refine goesL_ (some 62) rfl rfl Try.func49 (by kernel_rfl) rfl #[.slice Ao31 y107.length co31] rfl (by (try simp only [List.map_toArray,List.map_cons,List.map_nil]);first|done|rfl|(simp only [List.length_drop,List.length_take];rfl)) ?_;(with_reducible refine (plan_lengths.calls kj14 _ _ y107 true _ ?side1 ?side2 A25.out).mono ?_);(case side1 => repeat (first|exact (Kd.R_reads' z1i.out).2.2|(with_reducible refine Kd.C_alloc ?_ _)|(with_reducible refine Kd.C_drewN ?_ _)|(with_reducible refine Kd.C_drew ?_)));(case side2 => exact (Kd.R_reads' z1i.out).2.1);rintro e w' ⟨rfl,⟨nd,rfl⟩⟩;refine ⟨_,rfl,?_⟩;obtain ⟨z9g,z9h,z9i,z9j,z9k,z9l,z9m,z9n,z9o,z9p,z7k,z7l,z7m,z7n,z7o,z7p,z9q,z9r,z9s,z9t,z9u,z9v,z9w,z9x,z9y,z9z,z7q,z7r,z7s,z7t,z7u,z7v⟩:=kc16 z00.out))
          go_meet
          case rel => exact ⟨_,(true),(by first|rfl|(simp;done)|(simp [*];done)),H',⟨by have:=HJ1.out;have:=HJ7.out;have:=HJ14.out;first|omega|exact Nat.le_refl _⟩,⟨by (with_reducible repeat first|apply zN|apply zD|apply zA);exact z00.out⟩,⟨by repeat first|(with_reducible first|exact HB.out|apply yA|apply yN|apply yD|refine yS ?_ z01.out)|exact HB.out⟩⟩
         rw [if_neg c27] at H;have c27b0 : decide (a0_6 < 0) = false:=dF c27;clear c27;(first|rw [c27b0]|(simp only [i64_w,i32_w];rw [c27b0])|skip)
         have H':=zM H;clear H;obtain ⟨za0,za1,za2,za3,za4,za5,za6,za7,za8,za9,z7w,z7x,z7y,z7z,z80,z81,zaa,zab,zac,zad,zae,zaf,zag,zah,zai,zaj,z82,z83,z84,z85,z86,z87⟩:=kc16 z00.out;go_wp2_with (first|((with_reducible refine gate_dst (N:=61) rfl ?_);refine Kd.R_lit (Kd.int .i64) _ 2 ?hg (N:=61) ?hd (xs:=([a0_5,a0_7,a0_8,a0_9,a0_10,a0_11,a0_12] : List Int)) (inner:=[.int .i64 a0_5,.int .i64 a0_7,.int .i64 a0_8,.int .i64 a0_9,.int .i64 a0_10,.int .i64 a0_11,.int .i64 a0_12]) (ok:=fun _ => True) (okp:=fun _ => True) ?hr ?hp (fun _ hk => hk) trivial (Below.refl _ _) (Nat.le_refl _) (by simp) ?_;(case hd => rfl);(case hg => rfl);(case hr => first|(go_simp;done)|(go_simp;rfl));(case hp => exact (Reps.one (show Kd.M (Kd.int .i64) _ _ _ a0_5 [.int .i64 a0_5] from rfl) (Reps.one (show Kd.M (Kd.int .i64) _ _ _ a0_7 [.int .i64 a0_7] from rfl) (Reps.one (show Kd.M (Kd.int .i64) _ _ _ a0_8 [.int .i64 a0_8] from rfl) (Reps.one (show Kd.M (Kd.int .i64) _ _ _ a0_9 [.int .i64 a0_9] from rfl) (Reps.one (show Kd.M (Kd.int .i64) _ _ _ a0_10 [.int .i64 a0_10] from rfl) (Reps.one (show Kd.M (Kd.int .i64) _ _ _ a0_11 [.int .i64 a0_11] from rfl) (Reps.one (show Kd.M (Kd.int .i64) _ _ _ a0_12 [.int .i64 a0_12] from rfl) (Reps.none _ _)))))))));intro v108 w34 ho35 hb hg_ hnew_;clear hg_ hnew_;(first|rw [← Ny107.out] at ho35|(simp only [Int.reduceToNat] at ho35;rw [← Ny107.out] at ho35));have n0_:=zM (Kd.R_lower ho35 (yZ (by repeat first|(with_reducible first|exact HB.out|apply yA|apply yN|apply yD|refine yS ?_ z01.out)|exact HB.out)));have n1_:=zM (zB (g:=z1j) (o:=.cells #[.int .i64 a0_0,.int .i64 a0_1,.int .u8 a0_2,.int .u16 a0_3,.int .u16 a0_4,.int .i64 a0_5,.int .i64 a0_6,.int .i64 a0_7,.int .i64 a0_8,.int .i64 a0_9,.int .i64 a0_10,.int .i64 a0_11,.int .i64 a0_12,.int .i64 a0_13,.int .i64 a0_14,.bool a0_15] 24 (0,0)) (by (with_reducible repeat first|apply zN|apply zD|apply zA);exact z00.out) hb);have n2_:=zM (yT (by repeat first|(with_reducible first|exact HB.out|apply yA|apply yN|apply yD|refine yS ?_ z01.out)|exact HB.out) hb);clear z00;clear HB;have z1i:=n0_;have z00:=n1_;have HB:=n2_;clear n0_ n1_ n2_;clear hb ho35;obtain ⟨Ao36,co36,eo36⟩:=Kd.R_slice z1i.out;subst eo36)|((with_reducible refine gate_callee (f:=49) rfl ?_);refine goesL_ (some 62) rfl rfl Try.func49 (by kernel_rfl) rfl #[.slice Ao36 y107.length co36] rfl (by (try simp only [List.map_toArray,List.map_cons,List.map_nil]);first|done|rfl|(simp only [List.length_drop,List.length_take];rfl)) ?_;(with_reducible refine (plan_lengths.calls kj14 _ _ y107 true _ ?side1 ?side2 A25.out).mono ?_);(case side1 => repeat (first|exact (Kd.R_reads' z1i.out).2.2|(with_reducible refine Kd.C_alloc ?_ _)|(with_reducible refine Kd.C_drewN ?_ _)|(with_reducible refine Kd.C_drew ?_)));(case side2 => exact (Kd.R_reads' z1i.out).2.1);rintro e w' ⟨rfl,⟨nd,rfl⟩⟩;refine ⟨_,rfl,?_⟩;obtain ⟨zak,zal,zam,zan,zao,zap,zaq,zar,zas,zat,z88,z89,z8a,z8b,z8c,z8d,zau,zav,zaw,zax,zay,zaz,zb0,zb1,zb2,zb3,z8e,z8f,z8g,z8h,z8i,z8j⟩:=kc16 z00.out))
         go_meet
         case rel => exact ⟨_,(decide (a0_6 > 1048576)),(by first|rfl|(simp;done)|(simp [*];done)),H',⟨by have:=HJ1.out;have:=HJ7.out;have:=HJ14.out;first|omega|exact Nat.le_refl _⟩,⟨by (with_reducible repeat first|apply zN|apply zD|apply zA);exact z00.out⟩,⟨by repeat first|(with_reducible first|exact HB.out|apply yA|apply yN|apply yD|refine yS ?_ z01.out)|exact HB.out⟩⟩
        replace c26:=Bool.eq_false_iff.mpr c26;subst c26;have H1 : (plan_Plan_Check.j3 kj14 true a0_0 a0_1 a0_2 a0_3 a0_4 a0_5 a0_6 a0_7 a0_8 a0_9 a0_10 a0_11 a0_12 a0_13 a0_14 a0_15) = some r:=by rw [if_neg (show ¬ (false = true) by decide)] at H;exact H
        clear H;have H:=H1;clear H1;have H':=zM H;clear H;obtain ⟨zb4,zb5,zb6,zb7,zb8,zb9,zba,zbb,zbc,zbd,z8k,z8l,z8m,z8n,z8o,z8p,zbe,zbf,zbg,zbh,zbi,zbj,zbk,zbl,zbm,zbn,z8q,z8r,z8s,z8t,z8u,z8v⟩:=kc16 z00.out;go_wp2_with (first|((with_reducible refine gate_dst (N:=61) rfl ?_);refine Kd.R_lit (Kd.int .i64) _ 2 ?hg (N:=61) ?hd (xs:=([a0_5,a0_7,a0_8,a0_9,a0_10,a0_11,a0_12] : List Int)) (inner:=[.int .i64 a0_5,.int .i64 a0_7,.int .i64 a0_8,.int .i64 a0_9,.int .i64 a0_10,.int .i64 a0_11,.int .i64 a0_12]) (ok:=fun _ => True) (okp:=fun _ => True) ?hr ?hp (fun _ hk => hk) trivial (Below.refl _ _) (Nat.le_refl _) (by simp) ?_;(case hd => rfl);(case hg => rfl);(case hr => first|(go_simp;done)|(go_simp;rfl));(case hp => exact (Reps.one (show Kd.M (Kd.int .i64) _ _ _ a0_5 [.int .i64 a0_5] from rfl) (Reps.one (show Kd.M (Kd.int .i64) _ _ _ a0_7 [.int .i64 a0_7] from rfl) (Reps.one (show Kd.M (Kd.int .i64) _ _ _ a0_8 [.int .i64 a0_8] from rfl) (Reps.one (show Kd.M (Kd.int .i64) _ _ _ a0_9 [.int .i64 a0_9] from rfl) (Reps.one (show Kd.M (Kd.int .i64) _ _ _ a0_10 [.int .i64 a0_10] from rfl) (Reps.one (show Kd.M (Kd.int .i64) _ _ _ a0_11 [.int .i64 a0_11] from rfl) (Reps.one (show Kd.M (Kd.int .i64) _ _ _ a0_12 [.int .i64 a0_12] from rfl) (Reps.none _ _)))))))));intro v108 w39 ho40 hb hg_ hnew_;clear hg_ hnew_;(first|rw [← Ny107.out] at ho40|(simp only [Int.reduceToNat] at ho40;rw [← Ny107.out] at ho40));have n0_:=zM (Kd.R_lower ho40 (yZ (by repeat first|(with_reducible first|exact HB.out|apply yA|apply yN|apply yD|refine yS ?_ z01.out)|exact HB.out)));have n1_:=zM (zB (g:=z1j) (o:=.cells #[.int .i64 a0_0,.int .i64 a0_1,.int .u8 a0_2,.int .u16 a0_3,.int .u16 a0_4,.int .i64 a0_5,.int .i64 a0_6,.int .i64 a0_7,.int .i64 a0_8,.int .i64 a0_9,.int .i64 a0_10,.int .i64 a0_11,.int .i64 a0_12,.int .i64 a0_13,.int .i64 a0_14,.bool a0_15] 24 (0,0)) (by (with_reducible repeat first|apply zN|apply zD|apply zA);exact z00.out) hb);have n2_:=zM (yT (by repeat first|(with_reducible first|exact HB.out|apply yA|apply yN|apply yD|refine yS ?_ z01.out)|exact HB.out) hb);clear z00;clear HB;have z1i:=n0_;have z00:=n1_;have HB:=n2_;clear n0_ n1_ n2_;clear hb ho40;obtain ⟨Ao41,co41,eo41⟩:=Kd.R_slice z1i.out;subst eo41)|((with_reducible refine gate_callee (f:=49) rfl ?_);refine goesL_ (some 62) rfl rfl Try.func49 (by kernel_rfl) rfl #[.slice Ao41 y107.length co41] rfl (by (try simp only [List.map_toArray,List.map_cons,List.map_nil]);first|done|rfl|(simp only [List.length_drop,List.length_take];rfl)) ?_;(with_reducible refine (plan_lengths.calls kj14 _ _ y107 false _ ?side1 ?side2 A25.out).mono ?_);(case side1 => repeat (first|exact (Kd.R_reads' z1i.out).2.2|(with_reducible refine Kd.C_alloc ?_ _)|(with_reducible refine Kd.C_drewN ?_ _)|(with_reducible refine Kd.C_drew ?_)));(case side2 => exact (Kd.R_reads' z1i.out).2.1);rintro e w' ⟨rfl,⟨nd,rfl⟩⟩;refine ⟨_,rfl,?_⟩))
        go_meet
        case rel => exact ⟨_,(true),(by first|rfl|(simp;done)|(simp [*];done)),H',⟨by have:=HJ1.out;have:=HJ7.out;have:=HJ14.out;first|omega|exact Nat.le_refl _⟩,⟨by (with_reducible repeat first|apply zN|apply zD|apply zA);exact z00.out⟩,⟨by repeat first|(with_reducible first|exact HB.out|apply yA|apply yN|apply yD|refine yS ?_ z01.out)|exact HB.out⟩⟩
       case rest =>
        clear zfc;try clear c1
        try clear c2
        try clear p2
        try clear c3
        try clear c4
        try clear c4b0
        try clear c7
        try clear c9
        try clear c9b0
        try clear c11
        try clear c11b0
        try clear c14
        try clear c17
        try clear c19
        try clear c23
        try clear c26
        try clear c27
        try clear c27b0
        try clear z58
        try clear z59
        try clear z1k
        try clear z1l
        try clear z1m
        try clear z1n
        try clear z1o
        try clear z1p
        try clear z5a
        try clear z5b
        try clear z5c
        try clear z5d
        try clear z5e
        try clear z5f
        try clear z5g
        try clear z5h
        try clear z5i
        try clear z5j
        try clear z28
        try clear z29
        try clear z08
        try clear z09
        try clear z0a
        try clear z0b
        try clear z20
        try clear z21
        try clear z22
        try clear z23
        try clear z24
        try clear z25
        try clear z26
        try clear z27
        try clear z2k
        try clear z2l
        try clear z0i
        try clear z0j
        try clear z0k
        try clear z0l
        try clear z0m
        try clear z0n
        try clear z2m
        try clear z2n
        try clear z2o
        try clear z2p
        try clear z2q
        try clear z2r
        try clear z2s
        try clear z2t
        try clear z5k
        try clear z5l
        try clear z34
        try clear z35
        try clear z36
        try clear z37
        try clear z38
        try clear z39
        try clear z5m
        try clear z5n
        try clear z5o
        try clear z5p
        try clear z5q
        try clear z5r
        try clear z5s
        try clear z5t
        try clear z64
        try clear z65
        try clear z3g
        try clear z3h
        try clear z3i
        try clear z3j
        try clear z3k
        try clear z3l
        try clear z66
        try clear z67
        try clear z68
        try clear z69
        try clear z6a
        try clear z6b
        try clear z6c
        try clear z6d
        try clear z6o
        try clear z6p
        try clear z3s
        try clear z3t
        try clear z3u
        try clear z3v
        try clear z3w
        try clear z3x
        try clear z6q
        try clear z6r
        try clear z6s
        try clear z6t
        try clear z6u
        try clear z6v
        try clear z6w
        try clear z6x
        try clear z8w
        try clear z8x
        try clear z78
        try clear z79
        try clear z7a
        try clear z7b
        try clear z7c
        try clear z7d
        try clear z8y
        try clear z8z
        try clear z90
        try clear z91
        try clear z92
        try clear z93
        try clear z94
        try clear z95
        try clear z9g
        try clear z9h
        try clear z7k
        try clear z7l
        try clear z7m
        try clear z7n
        try clear z7o
        try clear z7p
        try clear z9i
        try clear z9j
        try clear z9k
        try clear z9l
        try clear z9m
        try clear z9n
        try clear z9o
        try clear z9p
        try clear za0
        try clear za1
        try clear z7w
        try clear z7x
        try clear z7y
        try clear z7z
        try clear z80
        try clear z81
        try clear za2
        try clear za3
        try clear za4
        try clear za5
        try clear za6
        try clear za7
        try clear za8
        try clear za9
        try clear zak
        try clear zal
        try clear z88
        try clear z89
        try clear z8a
        try clear z8b
        try clear z8c
        try clear z8d
        try clear zam
        try clear zan
        try clear zao
        try clear zap
        try clear zaq
        try clear zar
        try clear zas
        try clear zat
        try clear zb4
        try clear zb5
        try clear z8k
        try clear z8l
        try clear z8m
        try clear z8n
        try clear z8o
        try clear z8p
        try clear zb6
        try clear zb7
        try clear zb8
        try clear zb9
        try clear zba
        try clear zbb
        try clear zbc
        try clear zbd
        try clear z44
        try clear z45
        try clear z0u
        try clear z0v
        try clear z0w
        try clear z0x
        try clear z0y
        try clear z0z
        try clear z46
        try clear z47
        try clear z48
        try clear z49
        try clear z4a
        try clear z4b
        try clear z4c
        try clear z4d
        try clear z4o
        try clear z4p
        try clear z16
        try clear z17
        try clear z18
        try clear z19
        try clear z1a
        try clear z1b
        try clear z4q
        try clear z4r
        try clear z4s
        try clear z4t
        try clear z4u
        try clear z4v
        try clear z4w
        try clear z4x
        try clear z1q
        try clear z1r
        try clear z02
        try clear z03
        try clear z04
        try clear z05
        try clear z06
        try clear z07
        try clear z1s
        try clear z1t
        try clear z1u
        try clear z1v
        try clear z1w
        try clear z1x
        try clear z1y
        try clear z1z
        try clear z2a
        try clear z2b
        try clear z0c
        try clear z0d
        try clear z0e
        try clear z0f
        try clear z0g
        try clear z0h
        try clear z2c
        try clear z2d
        try clear z2e
        try clear z2f
        try clear z2g
        try clear z2h
        try clear z2i
        try clear z2j
        try clear z2u
        try clear z2v
        try clear z0o
        try clear z0p
        try clear z0q
        try clear z0r
        try clear z0s
        try clear z0t
        try clear z2w
        try clear z2x
        try clear z2y
        try clear z2z
        try clear z30
        try clear z31
        try clear z32
        try clear z33
        try clear z5u
        try clear z5v
        try clear z3a
        try clear z3b
        try clear z3c
        try clear z3d
        try clear z3e
        try clear z3f
        try clear z5w
        try clear z5x
        try clear z5y
        try clear z5z
        try clear z60
        try clear z61
        try clear z62
        try clear z63
        try clear z6e
        try clear z6f
        try clear z3m
        try clear z3n
        try clear z3o
        try clear z3p
        try clear z3q
        try clear z3r
        try clear z6g
        try clear z6h
        try clear z6i
        try clear z6j
        try clear z6k
        try clear z6l
        try clear z6m
        try clear z6n
        try clear z6y
        try clear z6z
        try clear z3y
        try clear z3z
        try clear z40
        try clear z41
        try clear z42
        try clear z43
        try clear z70
        try clear z71
        try clear z72
        try clear z73
        try clear z74
        try clear z75
        try clear z76
        try clear z77
        try clear z96
        try clear z97
        try clear z7e
        try clear z7f
        try clear z7g
        try clear z7h
        try clear z7i
        try clear z7j
        try clear z98
        try clear z99
        try clear z9a
        try clear z9b
        try clear z9c
        try clear z9d
        try clear z9e
        try clear z9f
        try clear z9q
        try clear z9r
        try clear z7q
        try clear z7r
        try clear z7s
        try clear z7t
        try clear z7u
        try clear z7v
        try clear z9s
        try clear z9t
        try clear z9u
        try clear z9v
        try clear z9w
        try clear z9x
        try clear z9y
        try clear z9z
        try clear zaa
        try clear zab
        try clear z82
        try clear z83
        try clear z84
        try clear z85
        try clear z86
        try clear z87
        try clear zac
        try clear zad
        try clear zae
        try clear zaf
        try clear zag
        try clear zah
        try clear zai
        try clear zaj
        try clear zau
        try clear zav
        try clear z8e
        try clear z8f
        try clear z8g
        try clear z8h
        try clear z8i
        try clear z8j
        try clear zaw
        try clear zax
        try clear zay
        try clear zaz
        try clear zb0
        try clear zb1
        try clear zb2
        try clear zb3
        try clear zbe
        try clear zbf
        try clear z8q
        try clear z8r
        try clear z8s
        try clear z8t
        try clear z8u
        try clear z8v
        try clear zbg
        try clear zbh
        try clear zbi
        try clear zbj
        try clear zbk
        try clear zbl
        try clear zbm
        try clear zbn
        try clear z4e
        try clear z4f
        try clear z10
        try clear z11
        try clear z12
        try clear z13
        try clear z14
        try clear z15
        try clear z4g
        try clear z4h
        try clear z4i
        try clear z4j
        try clear z4k
        try clear z4l
        try clear z4m
        try clear z4n
        try clear z4y
        try clear z4z
        try clear z1c
        try clear z1d
        try clear z1e
        try clear z1f
        try clear z1g
        try clear z1h
        try clear z50
        try clear z51
        try clear z52
        try clear z53
        try clear z54
        try clear z55
        try clear z56
        try clear z57
        try clear p2
        obtain ⟨kq,x46_23,rfl,HA,HJ23,z00,HB⟩:=hcut;cases kq with
       | zero => exact absurd HA.out (by simp [plan_Plan_Check.j3])
       | succ kj23 =>
         have H:=HA.out;clear HA;simp only [plan_Plan_Check.j3] at H;by_cases c42 : x46_23 = true
         ·
          subst c42;have H1 : (some 4) = some r:=by rw [if_pos rfl] at H;exact H
          clear H;have H:=H1;clear H1;obtain rfl:=Option.some.inj H;go_wp2;go_ret;exact ⟨by first|rfl|(simp [errW_none,errW_some] <;> rfl)|(simp [*,errW_none,errW_some] <;> rfl),by repeat first|(with_reducible first|exact HB.out|apply yA|apply yN|apply yD|refine yS ?_ z01.out)|exact HB.out⟩
         replace c42:=Bool.eq_false_iff.mpr c42;subst c42;have H1 : (if a0_13 < 1 then (plan_Plan_Check.j4 kj23 true) else (if a0_13 > 1024 then (plan_Plan_Check.j4 kj23 true) else (if a0_14 < 1 then (plan_Plan_Check.j4 kj23 true) else (plan_Plan_Check.j4 kj23 (decide (a0_14 > 256)))))) = some r:=by rw [if_neg (show ¬ (false = true) by decide)] at H;exact H
         clear H;have H:=H1;clear H1;have zfd:=zM H;clear H;go_upto_region 5 with (fail)
         go_cut [74] (fun v74 wc => ∃ (kq : Nat) (x74_42 : Bool),v74 = .bool x74_42 ∧ Aside0 (plan_Plan_Check.j4 kq x74_42 = some r) ∧ Aside0 (kq ≤ kj23) ∧ Aside0 (wc.heap[z1j]? = some (.cells #[.int .i64 a0_0,.int .i64 a0_1,.int .u8 a0_2,.int .u16 a0_3,.int .u16 a0_4,.int .i64 a0_5,.int .i64 a0_6,.int .i64 a0_7,.int .i64 a0_8,.int .i64 a0_9,.int .i64 a0_10,.int .i64 a0_11,.int .i64 a0_12,.int .i64 a0_13,.int .i64 a0_14,.bool a0_15] 24 (0,0))) ∧ Aside0 (Below w.heap.size w wc))
         case first =>
          have H:=zfd.out;clear zfd;by_cases c44 : a0_13 < 1
          ·
           rw [if_pos c44] at H;have c44b0 : decide (a0_13 < 1) = true:=dT c44;clear c44;(first|rw [c44b0]|(simp only [i64_w,i32_w];rw [c44b0])|skip)
           have H':=zM H;clear H;obtain ⟨zd0,zd1,zd2,zd3,zd4,zd5,zd6,zd7,zd8,zd9,zbo,zbp,zbq,zbr,zbs,zbt,zda,zdb,zdc,zdd,zde,zdf,zdg,zdh,zdi,zdj,zbu,zbv,zbw,zbx,zby,zbz⟩:=kc16 z00.out;go_wp2;go_meet
           case rel => exact ⟨_,(true),(by first|rfl|(simp;done)|(simp [*];done)),H',⟨by have:=HJ1.out;have:=HJ7.out;have:=HJ14.out;have:=HJ23.out;first|omega|exact Nat.le_refl _⟩,⟨by (with_reducible repeat first|apply zN|apply zD|apply zA);exact z00.out⟩,⟨by repeat first|(with_reducible first|exact HB.out|apply yA|apply yN|apply yD|refine yS ?_ z01.out)|exact HB.out⟩⟩
          rw [if_neg c44] at H;have c44b0 : decide (a0_13 < 1) = false:=dF c44;clear c44;(first|rw [c44b0]|(simp only [i64_w,i32_w];rw [c44b0])|skip)
          by_cases c46 : a0_13 > 1024
          ·
           rw [if_pos c46] at H;have c46b0 : decide (1024 < a0_13) = true:=dT c46;clear c46;have H':=zM H;clear H;obtain ⟨zdk,zdl,zdm,zdn,zdo,zdp,zdq,zdr,zds,zdt,zc0,zc1,zc2,zc3,zc4,zc5,zdu,zdv,zdw,zdx,zdy,zdz,ze0,ze1,ze2,ze3,zc6,zc7,zc8,zc9,zca,zcb⟩:=kc16 z00.out;go_wp2;go_meet
           case rel => exact ⟨_,(true),(by first|rfl|(simp;done)|(simp [*];done)),H',⟨by have:=HJ1.out;have:=HJ7.out;have:=HJ14.out;have:=HJ23.out;first|omega|exact Nat.le_refl _⟩,⟨by (with_reducible repeat first|apply zN|apply zD|apply zA);exact z00.out⟩,⟨by repeat first|(with_reducible first|exact HB.out|apply yA|apply yN|apply yD|refine yS ?_ z01.out)|exact HB.out⟩⟩
          rw [if_neg c46] at H;have c46b0 : decide (1024 < a0_13) = false:=dF c46;clear c46;by_cases c48 : a0_14 < 1
          ·
           rw [if_pos c48] at H;have c48b0 : decide (a0_14 < 1) = true:=dT c48;clear c48;have H':=zM H;clear H;obtain ⟨ze4,ze5,ze6,ze7,ze8,ze9,zea,zeb,zec,zed,zcc,zcd,zce,zcf,zcg,zch,zee,zef,zeg,zeh,zei,zej,zek,zel,zem,zen,zci,zcj,zck,zcl,zcm,zcn⟩:=kc16 z00.out;go_wp2;go_meet
           case rel => exact ⟨_,(true),(by first|rfl|(simp;done)|(simp [*];done)),H',⟨by have:=HJ1.out;have:=HJ7.out;have:=HJ14.out;have:=HJ23.out;first|omega|exact Nat.le_refl _⟩,⟨by (with_reducible repeat first|apply zN|apply zD|apply zA);exact z00.out⟩,⟨by repeat first|(with_reducible first|exact HB.out|apply yA|apply yN|apply yD|refine yS ?_ z01.out)|exact HB.out⟩⟩
          rw [if_neg c48] at H;have c48b0 : decide (a0_14 < 1) = false:=dF c48;clear c48;have H':=zM H;clear H;obtain ⟨zeo,zep,zeq,zer,zes,zet,zeu,zev,zew,zex,zco,zcp,zcq,zcr,zcs,zct,zey,zez,zf0,zf1,zf2,zf3,zf4,zf5,zf6,zf7,zcu,zcv,zcw,zcx,zcy,zcz⟩:=kc16 z00.out;go_wp2;go_meet
          case rel => exact ⟨_,(decide (a0_14 > 256)),(by first|rfl|(simp;done)|(simp [*];done)),H',⟨by have:=HJ1.out;have:=HJ7.out;have:=HJ14.out;have:=HJ23.out;first|omega|exact Nat.le_refl _⟩,⟨by (with_reducible repeat first|apply zN|apply zD|apply zA);exact z00.out⟩,⟨by repeat first|(with_reducible first|exact HB.out|apply yA|apply yN|apply yD|refine yS ?_ z01.out)|exact HB.out⟩⟩
         case rest =>
          clear zfd;try clear p2
          try clear c4
          try clear c42
          try clear c44
          try clear c44b0
          try clear c46
          try clear c46b0
          try clear c48
          try clear c48b0
          try clear z08
          try clear z09
          try clear z0a
          try clear z0b
          try clear z20
          try clear z21
          try clear z22
          try clear z23
          try clear z24
          try clear z25
          try clear z26
          try clear z27
          try clear z2k
          try clear z2l
          try clear z0i
          try clear z0j
          try clear z0k
          try clear z0l
          try clear z0m
          try clear z0n
          try clear z2m
          try clear z2n
          try clear z2o
          try clear z2p
          try clear z2q
          try clear z2r
          try clear z2s
          try clear z2t
          try clear z5k
          try clear z5l
          try clear z34
          try clear z35
          try clear z36
          try clear z37
          try clear z38
          try clear z39
          try clear z5m
          try clear z5n
          try clear z5o
          try clear z5p
          try clear z5q
          try clear z5r
          try clear z5s
          try clear z5t
          try clear z64
          try clear z65
          try clear z3g
          try clear z3h
          try clear z3i
          try clear z3j
          try clear z3k
          try clear z3l
          try clear z66
          try clear z67
          try clear z68
          try clear z69
          try clear z6a
          try clear z6b
          try clear z6c
          try clear z6d
          try clear z6o
          try clear z6p
          try clear z3s
          try clear z3t
          try clear z3u
          try clear z3v
          try clear z3w
          try clear z3x
          try clear z6q
          try clear z6r
          try clear z6s
          try clear z6t
          try clear z6u
          try clear z6v
          try clear z6w
          try clear z6x
          try clear z8w
          try clear z8x
          try clear z78
          try clear z79
          try clear z7a
          try clear z7b
          try clear z7c
          try clear z7d
          try clear z8y
          try clear z8z
          try clear z90
          try clear z91
          try clear z92
          try clear z93
          try clear z94
          try clear z95
          try clear z9g
          try clear z9h
          try clear z7k
          try clear z7l
          try clear z7m
          try clear z7n
          try clear z7o
          try clear z7p
          try clear z9i
          try clear z9j
          try clear z9k
          try clear z9l
          try clear z9m
          try clear z9n
          try clear z9o
          try clear z9p
          try clear za0
          try clear za1
          try clear z7w
          try clear z7x
          try clear z7y
          try clear z7z
          try clear z80
          try clear z81
          try clear za2
          try clear za3
          try clear za4
          try clear za5
          try clear za6
          try clear za7
          try clear za8
          try clear za9
          try clear zak
          try clear zal
          try clear z88
          try clear z89
          try clear z8a
          try clear z8b
          try clear z8c
          try clear z8d
          try clear zam
          try clear zan
          try clear zao
          try clear zap
          try clear zaq
          try clear zar
          try clear zas
          try clear zat
          try clear zb4
          try clear zb5
          try clear z8k
          try clear z8l
          try clear z8m
          try clear z8n
          try clear z8o
          try clear z8p
          try clear zb6
          try clear zb7
          try clear zb8
          try clear zb9
          try clear zba
          try clear zbb
          try clear zbc
          try clear zbd
          try clear zd0
          try clear zd1
          try clear zbo
          try clear zbp
          try clear zbq
          try clear zbr
          try clear zbs
          try clear zbt
          try clear zd2
          try clear zd3
          try clear zd4
          try clear zd5
          try clear zd6
          try clear zd7
          try clear zd8
          try clear zd9
          try clear zdk
          try clear zdl
          try clear zc0
          try clear zc1
          try clear zc2
          try clear zc3
          try clear zc4
          try clear zc5
          try clear zdm
          try clear zdn
          try clear zdo
          try clear zdp
          try clear zdq
          try clear zdr
          try clear zds
          try clear zdt
          try clear ze4
          try clear ze5
          try clear zcc
          try clear zcd
          try clear zce
          try clear zcf
          try clear zcg
          try clear zch
          try clear ze6
          try clear ze7
          try clear ze8
          try clear ze9
          try clear zea
          try clear zeb
          try clear zec
          try clear zed
          try clear zeo
          try clear zep
          try clear zco
          try clear zcp
          try clear zcq
          try clear zcr
          try clear zcs
          try clear zct
          try clear zeq
          try clear zer
          try clear zes
          try clear zet
          try clear zeu
          try clear zev
          try clear zew
          try clear zex
          try clear z44
          try clear z45
          try clear z0u
          try clear z0v
          try clear z0w
          try clear z0x
          try clear z0y
          try clear z0z
          try clear z46
          try clear z47
          try clear z48
          try clear z49
          try clear z4a
          try clear z4b
          try clear z4c
          try clear z4d
          try clear z4o
          try clear z4p
          try clear z16
          try clear z17
          try clear z18
          try clear z19
          try clear z1a
          try clear z1b
          try clear z4q
          try clear z4r
          try clear z4s
          try clear z4t
          try clear z4u
          try clear z4v
          try clear z4w
          try clear z4x
          try clear z1q
          try clear z1r
          try clear z02
          try clear z03
          try clear z04
          try clear z05
          try clear z06
          try clear z07
          try clear z1s
          try clear z1t
          try clear z1u
          try clear z1v
          try clear z1w
          try clear z1x
          try clear z1y
          try clear z1z
          try clear z2a
          try clear z2b
          try clear z0c
          try clear z0d
          try clear z0e
          try clear z0f
          try clear z0g
          try clear z0h
          try clear z2c
          try clear z2d
          try clear z2e
          try clear z2f
          try clear z2g
          try clear z2h
          try clear z2i
          try clear z2j
          try clear z2u
          try clear z2v
          try clear z0o
          try clear z0p
          try clear z0q
          try clear z0r
          try clear z0s
          try clear z0t
          try clear z2w
          try clear z2x
          try clear z2y
          try clear z2z
          try clear z30
          try clear z31
          try clear z32
          try clear z33
          try clear z5u
          try clear z5v
          try clear z3a
          try clear z3b
          try clear z3c
          try clear z3d
          try clear z3e
          try clear z3f
          try clear z5w
          try clear z5x
          try clear z5y
          try clear z5z
          try clear z60
          try clear z61
          try clear z62
          try clear z63
          try clear z6e
          try clear z6f
          try clear z3m
          try clear z3n
          try clear z3o
          try clear z3p
          try clear z3q
          try clear z3r
          try clear z6g
          try clear z6h
          try clear z6i
          try clear z6j
          try clear z6k
          try clear z6l
          try clear z6m
          try clear z6n
          try clear z6y
          try clear z6z
          try clear z3y
          try clear z3z
          try clear z40
          try clear z41
          try clear z42
          try clear z43
          try clear z70
          try clear z71
          try clear z72
          try clear z73
          try clear z74
          try clear z75
          try clear z76
          try clear z77
          try clear z96
          try clear z97
          try clear z7e
          try clear z7f
          try clear z7g
          try clear z7h
          try clear z7i
          try clear z7j
          try clear z98
          try clear z99
          try clear z9a
          try clear z9b
          try clear z9c
          try clear z9d
          try clear z9e
          try clear z9f
          try clear z9q
          try clear z9r
          try clear z7q
          try clear z7r
          try clear z7s
          try clear z7t
          try clear z7u
          try clear z7v
          try clear z9s
          try clear z9t
          try clear z9u
          try clear z9v
          try clear z9w
          try clear z9x
          try clear z9y
          try clear z9z
          try clear zaa
          try clear zab
          try clear z82
          try clear z83
          try clear z84
          try clear z85
          try clear z86
          try clear z87
          try clear zac
          try clear zad
          try clear zae
          try clear zaf
          try clear zag
          try clear zah
          try clear zai
          try clear zaj
          try clear zau
          try clear zav
          try clear z8e
          try clear z8f
          try clear z8g
          try clear z8h
          try clear z8i
          try clear z8j
          try clear zaw
          try clear zax
          try clear zay
          try clear zaz
          try clear zb0
          try clear zb1
          try clear zb2
          try clear zb3
          try clear zbe
          try clear zbf
          try clear z8q
          try clear z8r
          try clear z8s
          try clear z8t
          try clear z8u
          try clear z8v
          try clear zbg
          try clear zbh
          try clear zbi
          try clear zbj
          try clear zbk
          try clear zbl
          try clear zbm
          try clear zbn
          try clear zda
          try clear zdb
          try clear zbu
          try clear zbv
          try clear zbw
          try clear zbx
          try clear zby
          try clear zbz
          try clear zdc
          try clear zdd
          try clear zde
          try clear zdf
          try clear zdg
          try clear zdh
          try clear zdi
          try clear zdj
          try clear zdu
          try clear zdv
          try clear zc6
          try clear zc7
          try clear zc8
          try clear zc9
          try clear zca
          try clear zcb
          try clear zdw
          try clear zdx
          try clear zdy
          try clear zdz
          try clear ze0
          try clear ze1
          try clear ze2
          try clear ze3
          try clear zee
          try clear zef
          try clear zci
          try clear zcj
          try clear zck
          try clear zcl
          try clear zcm
          try clear zcn
          try clear zeg
          try clear zeh
          try clear zei
          try clear zej
          try clear zek
          try clear zel
          try clear zem
          try clear zen
          try clear zey
          try clear zez
          try clear zcu
          try clear zcv
          try clear zcw
          try clear zcx
          try clear zcy
          try clear zcz
          try clear zf0
          try clear zf1
          try clear zf2
          try clear zf3
          try clear zf4
          try clear zf5
          try clear zf6
          try clear zf7
          try clear z4e
          try clear z4f
          try clear z10
          try clear z11
          try clear z12
          try clear z13
          try clear z14
          try clear z15
          try clear z4g
          try clear z4h
          try clear z4i
          try clear z4j
          try clear z4k
          try clear z4l
          try clear z4m
          try clear z4n
          try clear z4y
          try clear z4z
          try clear z1c
          try clear z1d
          try clear z1e
          try clear z1f
          try clear z1g
          try clear z1h
          try clear z50
          try clear z51
          try clear z52
          try clear z53
          try clear z54
          try clear z55
          try clear z56
          try clear z57
          try clear p2
          obtain ⟨kq,x74_42,rfl,HA,HJ42,z00,HB⟩:=hcut;cases kq with
         | zero => exact absurd HA.out (by simp [plan_Plan_Check.j4])
         | succ kj42 =>
           have H:=HA.out;clear HA;simp only [plan_Plan_Check.j4] at H;by_cases c51 : x74_42 = true
           ·
            subst c51;have H1 : (some 4) = some r:=by rw [if_pos rfl] at H;exact H
            clear H;have H:=H1;clear H1;obtain rfl:=Option.some.inj H;go_wp2;go_ret;exact ⟨by first|rfl|(simp [errW_none,errW_some] <;> rfl)|(simp [*,errW_none,errW_some] <;> rfl),by repeat first|(with_reducible first|exact HB.out|apply yA|apply yN|apply yD|refine yS ?_ z01.out)|exact HB.out⟩
           replace c51:=Bool.eq_false_iff.mpr c51;subst c51;have H1 : (some 0) = some r:=by rw [if_neg (show ¬ (false = true) by decide)] at H;exact H
           clear H;have H:=H1;clear H1;obtain rfl:=Option.some.inj H;go_wp2;go_ret;exact ⟨by first|rfl|(simp [errW_none,errW_some] <;> rfl)|(simp [*,errW_none,errW_some] <;> rfl),by repeat first|(with_reducible first|exact HB.out|apply yA|apply yN|apply yD|refine yS ?_ z01.out)|exact HB.out⟩

end Go.Proofs.Ytapicoienpbdfaa.PPlanTells
