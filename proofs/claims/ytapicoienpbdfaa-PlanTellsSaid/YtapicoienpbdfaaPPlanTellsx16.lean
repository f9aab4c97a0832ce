-- Written by a program of this work, after the translation.
import Derived.Test.YtapicoienpbdfaaPPlanTellsx0
import Derived.Test.YtapicoienpbdfaaPPlanTellsx3
namespace Go.Proofs.Ytapicoienpbdfaa.PPlanTells
open Go.RowKit Go.Proofs.YtapicoienpbdfaaW.PrintWords Go.Proofs.YtapicoienpbdfaaW.PrintLast Go.Proofs.YtapicoienpbdfaaW.PrintMore
attribute [local go_sem] max2_int min2_int max_two min_two max_three min_three max_four min_four   -- for this text's walks alone
set_option linter.unusedVariables false
set_option linter.unusedSimpArgs false

/-! ### plan_Plan_End: function 17 -/
def plan_Plan_End.j0 : Nat → Int → Int → Bool → Option (Int)
  | 0, _, _, _ => none
  | k + 1, x1, x2, x18 => if x18 = true then (some 0) else (some (IntKind.u16.wrap (wrap64 ((wrap64 ((wrap64 (2 * x1)) + x2)) + 1))))
def plan_Plan_End.f (k : Nat) (a0_0 : Int) (a0_1 : Int) (a0_2 : Int) (a0_3 : Int) (a0_4 : Int) (a0_5 : Int) (a0_6 : Int) (a0_7 : Int) (a0_8 : Int) (a0_9 : Int) (a0_10 : Int) (a0_11 : Int) (a0_12 : Int) (a0_13 : Int) (a0_14 : Int) (a0_15 : Bool) (a1 : Int) (a2 : Int) : Option (Int) := (plan_Plan_has.f k a0_0 a0_1 a0_2 a0_3 a0_4 a0_5 a0_6 a0_7 a0_8 a0_9 a0_10 a0_11 a0_12 a0_13 a0_14 a0_15 a1).bind fun t210 => (if t210 = true then (if a2 = 0 then (plan_Plan_End.j0 k a1 a2 false) else (plan_Plan_End.j0 k a1 a2 (a2 != 1))) else (plan_Plan_End.j0 k a1 a2 true))
theorem plan_Plan_End.mono_l : ∀ k, (∀ y0 y1 y2, LeO (plan_Plan_End.j0 k y0 y1 y2) (plan_Plan_End.j0 (k + 1) y0 y1 y2))
 | 0 => fun _ _ _ r h => by simp [plan_Plan_End.j0] at h
 | k + 1 => by
  have ih0 := plan_Plan_End.mono_l k
  intro y0 y1 y2
  unfold plan_Plan_End.j0
  repeat' first
  | (with_reducible exact ih0 _ _ _)
  | (with_reducible exact plan_Plan_has.mono _ _ _ _ _ _ _ _ _ _ _ _ _ _ _ _ _ _)
  | (with_reducible exact LeO.refl _)
  | (with_reducible exact LeO.none _)
  | (with_reducible refine LeO.ite ?_ ?_)
  | (with_reducible refine LeO.bind ?_ (fun _ => ?_))
  | exact ih0 _ _ _
  | exact plan_Plan_has.mono _ _ _ _ _ _ _ _ _ _ _ _ _ _ _ _ _ _
  | exact LeO.none _
  | refine LeO.ite ?_ ?_
  | refine LeO.bind ?_ (fun _ => ?_)
theorem plan_Plan_End.mono : ∀ a0 a1 a2 a3 a4 a5 a6 a7 a8 a9 a10 a11 a12 a13 a14 a15 a16 a17 k, LeO (plan_Plan_End.f k a0 a1 a2 a3 a4 a5 a6 a7 a8 a9 a10 a11 a12 a13 a14 a15 a16 a17) (plan_Plan_End.f (k + 1) a0 a1 a2 a3 a4 a5 a6 a7 a8 a9 a10 a11 a12 a13 a14 a15 a16 a17) := by
 intro a0 a1 a2 a3 a4 a5 a6 a7 a8 a9 a10 a11 a12 a13 a14 a15 a16 a17 k;have ih0:=plan_Plan_End.mono_l k;unfold plan_Plan_End.f
 repeat' first
  | (with_reducible exact ih0 _ _ _)
  | (with_reducible exact plan_Plan_has.mono _ _ _ _ _ _ _ _ _ _ _ _ _ _ _ _ _ _)
  | (with_reducible exact LeO.refl _)
  | (with_reducible exact LeO.none _)
  | (with_reducible refine LeO.ite ?_ ?_)
  | (with_reducible refine LeO.bind ?_ (fun _ => ?_))
  | exact ih0 _ _ _
  | exact plan_Plan_has.mono _ _ _ _ _ _ _ _ _ _ _ _ _ _ _ _ _ _
  | exact LeO.none _
  | refine LeO.ite ?_ ?_
  | refine LeO.bind ?_ (fun _ => ?_)
set_option maxHeartbeats 8000000 in
set_option maxRecDepth 100000 in
theorem plan_Plan_End.calls (k : Nat) (a0_0 : Int) (a0_1 : Int) (a0_2 : Int) (a0_3 : Int) (a0_4 : Int) (a0_5 : Int) (a0_6 : Int) (a0_7 : Int) (a0_8 : Int) (a0_9 : Int) (a0_10 : Int) (a0_11 : Int) (a0_12 : Int) (a0_13 : Int) (a0_14 : Int) (a0_15 : Bool) (a1 : Int) (a2 : Int) (r : Int) (w : World) (h : plan_Plan_End.f k a0_0 a0_1 a0_2 a0_3 a0_4 a0_5 a0_6 a0_7 a0_8 a0_9 a0_10 a0_11 a0_12 a0_13 a0_14 a0_15 a1 a2 = some r) :
  Calls Try.prog 17 #[.agg #[.int .i64 a0_0, .int .i64 a0_1, .int .u8 a0_2, .int .u16 a0_3, .int .u16 a0_4, .int .i64 a0_5, .int .i64 a0_6, .int .i64 a0_7, .int .i64 a0_8, .int .i64 a0_9, .int .i64 a0_10, .int .i64 a0_11, .int .i64 a0_12, .int .i64 a0_13, .int .i64 a0_14, .bool a0_15], .int .i64 a1, .int .i64 a2] w fun e w' => e = .returned (.int .u16 r) ∧ Below w.heap.size w w' := by
 have hu24:=Try.underlying24;have HB:=zM (Below.refl w.heap.size w);have H : ((plan_Plan_has.f k a0_0 a0_1 a0_2 a0_3 a0_4 a0_5 a0_6 a0_7 a0_8 a0_9 a0_10 a0_11 a0_12 a0_13 a0_14 a0_15 a1).bind fun z2r => (if z2r = true then (if a2 = 0 then (plan_Plan_End.j0 k a1 a2 false) else (plan_Plan_End.j0 k a1 a2 (a2 != 1))) else (plan_Plan_End.j0 k a1 a2 true))) = some r:=h;clear h;have HC4:=zM H;clear H;go_enter Try.func17,Try.ntmps17
 go_upto_region 1 with (first|((with_reducible refine gate_dst (N:=3) rfl ?_);refine box_event ?hg (N:=3) ?hd (cs:=#[.int .i64 a0_0,.int .i64 a0_1,.int .u8 a0_2,.int .u16 a0_3,.int .u16 a0_4,.int .i64 a0_5,.int .i64 a0_6,.int .i64 a0_7,.int .i64 a0_8,.int .i64 a0_9,.int .i64 a0_10,.int .i64 a0_11,.int .i64 a0_12,.int .i64 a0_13,.int .i64 a0_14,.bool a0_15]) (t:=24) ?hr ?_;(case hd => rfl);(case hg => rfl);(case hr => first|(go_simp;done)|(go_simp;rfl));intro z02 hg w5 hbox hb;have n0_:=zM (yT (by repeat first|(with_reducible first|exact HB.out|apply yA|apply yN|apply yD)|exact HB.out) hb);have n1_:=zM (hbox);have n2_:=zM ((by rw [hg];exact (yZ (by repeat first|(with_reducible first|exact HB.out|apply yA|apply yN|apply yD)|exact HB.out)) : w.heap.size ≤ z02));have n3_:=zM ((by rw [hg];exact (yZ (by repeat first|(with_reducible first|exact HB.out|apply yA|apply yN|apply yD)|exact HB.out)) : w.heap.size ≤ z02));clear HB;have HB:=n0_;have z00:=n1_;have z2s:=n2_;have z01:=n3_;clear n0_ n1_ n2_ n3_;clear hb hbox hg))
 (try simp only [Act.put,sA,sB,sC])
 go_cut [18] (fun v18 wc => ∃ (kq : Nat) (x18_3 : Bool),v18 = .bool x18_3 ∧ Aside0 (plan_Plan_End.j0 kq a1 a2 x18_3 = some r) ∧ Aside0 (kq ≤ k) ∧ Aside0 (wc.heap[z02]? = some (.cells #[.int .i64 a0_0,.int .i64 a0_1,.int .u8 a0_2,.int .u16 a0_3,.int .u16 a0_4,.int .i64 a0_5,.int .i64 a0_6,.int .i64 a0_7,.int .i64 a0_8,.int .i64 a0_9,.int .i64 a0_10,.int .i64 a0_11,.int .i64 a0_12,.int .i64 a0_13,.int .i64 a0_14,.bool a0_15] 24 (0,0))) ∧ Aside0 (Below w.heap.size w wc))
 case first =>
  have H:=HC4.out;clear HC4;replace H:=Option.bind_eq_some_iff.mp H;obtain ⟨z2r,A60,H⟩:=H;try dsimp only at H
  have A6:=zM A60;clear A60;by_cases c7 : z2r = true
  ·
   subst c7;have H1 : (if a2 = 0 then (plan_Plan_End.j0 k a1 a2 false) else (plan_Plan_End.j0 k a1 a2 (a2 != 1))) = some r:=by rw [if_pos rfl] at H;exact H
   clear H;have H:=H1;clear H1;by_cases c8 : a2 = 0
   ·
    rw [if_pos c8] at H;have c8b0 : (a2 == 0) = true:=beq_iff_eq.mpr c8;have c8b1 : (a2 != 0) = false:=bne_eq_false_iff_eq.mpr c8;clear c8;(first|rw [c8b0]|(simp only [i64_w,i32_w];rw [c8b0])|skip)
    have H':=zM H;clear H;obtain ⟨z27,z28,z29,z2a,z2b,z2c,z2d,z2e,z2f,z2g,z0r,z0s,z0t,z0u,z0v,z0w,z2h,z2i,z2j,z2k,z2l,z2m,z2n,z2o,z2p,z2q,z0x,z0y,z0z,z10,z11,z12⟩:=kc16 z00.out;go_wp2_with (first|((with_reducible refine gate_callee (f:=33) rfl ?_);refine goesL_ (some 9) rfl rfl Try.func33 (by kernel_rfl) rfl #[.agg #[.int .i64 a0_0,.int .i64 a0_1,.int .u8 a0_2,.int .u16 a0_3,.int .u16 a0_4,.int .i64 a0_5,.int .i64 a0_6,.int .i64 a0_7,.int .i64 a0_8,.int .i64 a0_9,.int .i64 a0_10,.int .i64 a0_11,.int .i64 a0_12,.int .i64 a0_13,.int .i64 a0_14,.bool a0_15],.int .i64 a1] rfl (by (try simp only [List.map_toArray,List.map_cons,List.map_nil]);first|done|rfl|(simp only [List.length_drop,List.length_take];rfl)) ?_;(with_reducible refine (plan_Plan_has.calls k a0_0 a0_1 a0_2 a0_3 a0_4 a0_5 a0_6 a0_7 a0_8 a0_9 a0_10 a0_11 a0_12 a0_13 a0_14 a0_15 a1 true _ A6.out).mono ?_);rintro e w10 ⟨rfl,hb⟩;refine ⟨_,rfl,?_⟩;have n0_:=zM (zB (g:=z02) (o:=.cells #[.int .i64 a0_0,.int .i64 a0_1,.int .u8 a0_2,.int .u16 a0_3,.int .u16 a0_4,.int .i64 a0_5,.int .i64 a0_6,.int .i64 a0_7,.int .i64 a0_8,.int .i64 a0_9,.int .i64 a0_10,.int .i64 a0_11,.int .i64 a0_12,.int .i64 a0_13,.int .i64 a0_14,.bool a0_15] 24 (0,0)) (by (with_reducible repeat first|apply zN|apply zD|apply zA);exact z00.out) hb);have n1_:=zM (yT (by repeat first|(with_reducible first|exact HB.out|apply yA|apply yN|apply yD|refine yS ?_ z01.out)|exact HB.out) hb);clear z00;clear HB;have z00:=n0_;have HB:=n1_;clear n0_ n1_;(try clear hb);(try clear hb2);(try clear hk);(try clear hi)))
    go_meet
    case rel => exact ⟨_,(false),(by first|rfl|(simp;done)|(simp [*];done)),H',⟨by first|omega|exact Nat.le_refl _⟩,⟨by (with_reducible repeat first|apply zN|apply zD|apply zA);exact z00.out⟩,⟨by repeat first|(with_reducible first|exact HB.out|apply yA|apply yN|apply yD|refine yS ?_ z01.out)|exact HB.out⟩⟩
   rw [if_neg c8] at H;have c8b0 : (a2 == 0) = false:=beq_eq_false_iff_ne.mpr c8;have c8b1 : (a2 != 0) = true:=bne_iff_ne.mpr c8;(first|rw [c8b0]|(simp only [i64_w,i32_w];rw [c8b0])|skip)
   have H':=zM H;clear H;obtain ⟨z13,z14,z15,z16,z17,z18,z19,z1a,z1b,z1c,z03,z04,z05,z06,z07,z08,z1d,z1e,z1f,z1g,z1h,z1i,z1j,z1k,z1l,z1m,z09,z0a,z0b,z0c,z0d,z0e⟩:=kc16 z00.out;go_wp2_with (first|((with_reducible refine gate_callee (f:=33) rfl ?_);refine goesL_ (some 9) rfl rfl Try.func33 (by kernel_rfl) rfl #[.agg #[.int .i64 a0_0,.int .i64 a0_1,.int .u8 a0_2,.int .u16 a0_3,.int .u16 a0_4,.int .i64 a0_5,.int .i64 a0_6,.int .i64 a0_7,.int .i64 a0_8,.int .i64 a0_9,.int .i64 a0_10,.int .i64 a0_11,.int .i64 a0_12,.int .i64 a0_13,.int .i64 a0_14,.bool a0_15],.int .i64 a1] rfl (by (try simp only [List.map_toArray,List.map_cons,List.map_nil]);first|done|rfl|(simp only [List.length_drop,List.length_take];rfl)) ?_;(with_reducible refine (plan_Plan_has.calls k a0_0 a0_1 a0_2 a0_3 a0_4 a0_5 a0_6 a0_7 a0_8 a0_9 a0_10 a0_11 a0_12 a0_13 a0_14 a0_15 a1 true _ A6.out).mono ?_);rintro e w12 ⟨rfl,hb⟩;refine ⟨_,rfl,?_⟩;have n0_:=zM (zB (g:=z02) (o:=.cells #[.int .i64 a0_0,.int .i64 a0_1,.int .u8 a0_2,.int .u16 a0_3,.int .u16 a0_4,.int .i64 a0_5,.int .i64 a0_6,.int .i64 a0_7,.int .i64 a0_8,.int .i64 a0_9,.int .i64 a0_10,.int .i64 a0_11,.int .i64 a0_12,.int .i64 a0_13,.int .i64 a0_14,.bool a0_15] 24 (0,0)) (by (with_reducible repeat first|apply zN|apply zD|apply zA);exact z00.out) hb);have n1_:=zM (yT (by repeat first|(with_reducible first|exact HB.out|apply yA|apply yN|apply yD|refine yS ?_ z01.out)|exact HB.out) hb);clear z00;clear HB;have z00:=n0_;have HB:=n1_;clear n0_ n1_;(try clear hb);(try clear hb2);(try clear hk);(try clear hi)))
   go_meet
   case rel => exact ⟨_,((a2 != 1)),(by first|rfl|(simp;done)|(simp [*];done)),H',⟨by first|omega|exact Nat.le_refl _⟩,⟨by (with_reducible repeat first|apply zN|apply zD|apply zA);exact z00.out⟩,⟨by repeat first|(with_reducible first|exact HB.out|apply yA|apply yN|apply yD|refine yS ?_ z01.out)|exact HB.out⟩⟩
  replace c7:=Bool.eq_false_iff.mpr c7;subst c7;have H1 : (plan_Plan_End.j0 k a1 a2 true) = some r:=by rw [if_neg (show ¬ (false = true) by decide)] at H;exact H
  clear H;have H:=H1;clear H1;have H':=zM H;clear H;obtain ⟨z1n,z1o,z1p,z1q,z1r,z1s,z1t,z1u,z1v,z1w,z0f,z0g,z0h,z0i,z0j,z0k,z1x,z1y,z1z,z20,z21,z22,z23,z24,z25,z26,z0l,z0m,z0n,z0o,z0p,z0q⟩:=kc16 z00.out;go_wp2_with (first|((with_reducible refine gate_callee (f:=33) rfl ?_);refine goesL_ (some 9) rfl rfl Try.func33 (by kernel_rfl) rfl #[.agg #[.int .i64 a0_0,.int .i64 a0_1,.int .u8 a0_2,.int .u16 a0_3,.int .u16 a0_4,.int .i64 a0_5,.int .i64 a0_6,.int .i64 a0_7,.int .i64 a0_8,.int .i64 a0_9,.int .i64 a0_10,.int .i64 a0_11,.int .i64 a0_12,.int .i64 a0_13,.int .i64 a0_14,.bool a0_15],.int .i64 a1] rfl (by (try simp only [List.map_toArray,List.map_cons,List.map_nil]);first|done|rfl|(simp only [List.length_drop,List.length_take];rfl)) ?_;(with_reducible refine (plan_Plan_has.calls k a0_0 a0_1 a0_2 a0_3 a0_4 a0_5 a0_6 a0_7 a0_8 a0_9 a0_10 a0_11 a0_12 a0_13 a0_14 a0_15 a1 false _ A6.out).mono ?_);rintro e w14 ⟨rfl,hb⟩;refine ⟨_,rfl,?_⟩;have n0_:=zM (zB (g:=z02) (o:=.cells #[.int .i64 a0_0,.int .i64 a0_1,.int .u8 a0_2,.int .u16 a0_3,.int .u16 a0_4,.int .i64 a0_5,.int .i64 a0_6,.int .i64 a0_7,.int .i64 a0_8,.int .i64 a0_9,.int .i64 a0_10,.int .i64 a0_11,.int .i64 a0_12,.int .i64 a0_13,.int .i64 a0_14,.bool a0_15] 24 (0,0)) (by (with_reducible repeat first|apply zN|apply zD|apply zA);exact z00.out) hb);have n1_:=zM (yT (by repeat first|(with_reducible first|exact HB.out|apply yA|apply yN|apply yD|refine yS ?_ z01.out)|exact HB.out) hb);clear z00;clear HB;have z00:=n0_;have HB:=n1_;clear n0_ n1_;(try clear hb);(try clear hb2);(try clear hk);(try clear hi)))
  go_meet
  case rel => exact ⟨_,(true),(by first|rfl|(simp;done)|(simp [*];done)),H',⟨by first|omega|exact Nat.le_refl _⟩,⟨by (with_reducible repeat first|apply zN|apply zD|apply zA);exact z00.out⟩,⟨by repeat first|(with_reducible first|exact HB.out|apply yA|apply yN|apply yD|refine yS ?_ z01.out)|exact HB.out⟩⟩
 case rest =>
  clear HC4;try clear c1
  try clear p2
  try clear c3
  try clear c7
  try clear c8
  try clear c8b0
  try clear c8b1
  try clear z13
  try clear z14
  try clear z03
  try clear z04
  try clear z05
  try clear z06
  try clear z07
  try clear z08
  try clear z15
  try clear z16
  try clear z17
  try clear z18
  try clear z19
  try clear z1a
  try clear z1b
  try clear z1c
  try clear z1n
  try clear z1o
  try clear z0f
  try clear z0g
  try clear z0h
  try clear z0i
  try clear z0j
  try clear z0k
  try clear z1p
  try clear z1q
  try clear z1r
  try clear z1s
  try clear z1t
  try clear z1u
  try clear z1v
  try clear z1w
  try clear z27
  try clear z28
  try clear z0r
  try clear z0s
  try clear z0t
  try clear z0u
  try clear z0v
  try clear z0w
  try clear z29
  try clear z2a
  try clear z2b
  try clear z2c
  try clear z2d
  try clear z2e
  try clear z2f
  try clear z2g
  try clear z1d
  try clear z1e
  try clear z09
  try clear z0a
  try clear z0b
  try clear z0c
  try clear z0d
  try clear z0e
  try clear z1f
  try clear z1g
  try clear z1h
  try clear z1i
  try clear z1j
  try clear z1k
  try clear z1l
  try clear z1m
  try clear z1x
  try clear z1y
  try clear z0l
  try clear z0m
  try clear z0n
  try clear z0o
  try clear z0p
  try clear z0q
  try clear z1z
  try clear z20
  try clear z21
  try clear z22
  try clear z23
  try clear z24
  try clear z25
  try clear z26
  try clear z2h
  try clear z2i
  try clear z0x
  try clear z0y
  try clear z0z
  try clear z10
  try clear z11
  try clear z12
  try clear z2j
  try clear z2k
  try clear z2l
  try clear z2m
  try clear z2n
  try clear z2o
  try clear z2p
  try clear z2q
  obtain ⟨kq,x18_3,rfl,HA,HJ3,z00,HB⟩:=hcut;cases kq with
 | zero => exact absurd HA.out (by simp [plan_Plan_End.j0])
 | succ kj3 =>
   have H:=HA.out;clear HA;simp only [plan_Plan_End.j0] at H;by_cases c15 : x18_3 = true
   ·
    subst c15;have H1 : (some 0) = some r:=by rw [if_pos rfl] at H;exact H
    clear H;have H:=H1;clear H1;obtain rfl:=Option.some.inj H;go_wp2;go_ret;exact ⟨by first|rfl|(simp [errW_none,errW_some] <;> rfl)|(simp [*,errW_none,errW_some] <;> rfl),by repeat first|(with_reducible first|exact HB.out|apply yA|apply yN|apply yD|refine yS ?_ z01.out)|exact HB.out⟩
   replace c15:=Bool.eq_false_iff.mpr c15;subst c15;have H1 : (some (IntKind.u16.wrap (wrap64 ((wrap64 ((wrap64 (2 * a1)) + a2)) + 1)))) = some r:=by rw [if_neg (show ¬ (false = true) by decide)] at H;exact H
   clear H;have H:=H1;clear H1;obtain rfl:=Option.some.inj H;go_wp2;go_ret;exact ⟨by first|rfl|(simp [errW_none,errW_some] <;> rfl)|(simp [*,errW_none,errW_some] <;> rfl),by repeat first|(with_reducible first|exact HB.out|apply yA|apply yN|apply yD|refine yS ?_ z01.out)|exact HB.out⟩

end Go.Proofs.Ytapicoienpbdfaa.PPlanTells
