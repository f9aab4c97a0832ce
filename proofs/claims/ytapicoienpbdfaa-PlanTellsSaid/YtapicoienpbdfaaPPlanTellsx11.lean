-- Written by a program of this work, after the translation.
import Derived.Test.YtapicoienpbdfaaPPlanTellsx0
import Derived.Test.YtapicoienpbdfaaPPlanTellsx10
namespace Go.Proofs.Ytapicoienpbdfaa.PPlanTells
open Go.RowKit Go.Proofs.YtapicoienpbdfaaW.PrintWords Go.Proofs.YtapicoienpbdfaaW.PrintLast Go.Proofs.YtapicoienpbdfaaW.PrintMore
attribute [local go_sem] max2_int min2_int max_two min_two max_three min_three max_four min_four   -- for this text's walks alone
set_option linter.unusedVariables false
set_option linter.unusedSimpArgs false

/-! ### ccm_Name: function 28 -/
def ccm_Name.f (a0 : ByteArray) : Option (ByteArray) := if (a0.size : Int) > 48 then (if 0 ≤ 48 then (if 48 ≤ (a0.size : Int) then (some (a0.extract 0 48)) else (none)) else (none)) else ((strings_Repeat.f (⟨#[0]⟩ : ByteArray) (wrap64 (48 - (a0.size : Int)))).bind fun t154 => (if a0.size + t154.size ≤ 9223372036854775807 then (some (a0 ++ t154)) else (none)))
set_option maxHeartbeats 8000000 in
set_option maxRecDepth 100000 in
theorem ccm_Name.calls (a0 : ByteArray) (r : ByteArray) (w : World) (h : ccm_Name.f a0 = some r) :
  Calls Try.prog 28 #[.string a0] w fun e w' => e = .returned (.string r) ∧ Below w.heap.size w w' := by
 have HB:=zM (Below.refl w.heap.size w);have H : (if (a0.size : Int) > 48 then (if 0 ≤ 48 then (if 48 ≤ (a0.size : Int) then (some (a0.extract 0 48)) else (none)) else (none)) else ((strings_Repeat.f (⟨#[0]⟩ : ByteArray) (wrap64 (48 - (a0.size : Int)))).bind fun z00 => (if a0.size + z00.size ≤ 9223372036854775807 then (some (a0 ++ z00)) else (none)))) = some r:=h;clear h;by_cases c2 : (a0.size : Int) > 48
 ·
  rw [if_pos c2] at H;have c2b0 : decide (48 < (a0.size : Int)) = true:=dT c2;have c2b1 : decide (48 < a0.size) = true:=dT (by omega);clear c2;by_cases c3 : 0 ≤ 48
  ·
   rw [if_pos c3] at H;have c3b0:=eq_true c3;have c3b1 : decide (0 ≤ 48) = true:=dT c3;clear c3;by_cases c4 : 48 ≤ (a0.size : Int)
   ·
    rw [if_pos c4] at H;have c4b0:=eq_true c4;have c4b1 : decide (48 ≤ (a0.size : Int)) = true:=dT c4;clear c4;obtain rfl:=Option.some.inj H;go_enter Try.func28,Try.ntmps28
    go_wp2;go_ret;exact ⟨by first|rfl|(simp [errW_none,errW_some] <;> rfl)|(simp [*,errW_none,errW_some] <;> rfl),by repeat first|(with_reducible first|exact HB.out|apply yA|apply yN|apply yD)|exact HB.out⟩
   rw [if_neg c4] at H;exact absurd H (by simp)
  rw [if_neg c3] at H;exact absurd H (by simp)
 rw [if_neg c2] at H;have c2b0 : decide (48 < (a0.size : Int)) = false:=dF c2;have c2b1 : decide (48 < a0.size) = false:=dF (by omega);clear c2;replace H:=Option.bind_eq_some_iff.mp H;obtain ⟨z00,A50,H⟩:=H;try dsimp only at H
 have A5:=zM A50;clear A50;by_cases c6 : a0.size + z00.size ≤ 9223372036854775807
 ·
  rw [if_pos c6] at H;have c6b0:=eq_true c6;have c6b1 : decide (a0.size + z00.size ≤ 9223372036854775807) = true:=dT c6;try have c6b2 : (9223372036854775807 < a0.size + z00.size) = False:=eq_false (Nat.not_lt.2 c6)
  obtain rfl:=Option.some.inj H;go_enter Try.func28,Try.ntmps28
  go_wp2_with (first|((with_reducible refine gate_callee (f:=42) rfl ?_);refine goesL_ (some 12) rfl rfl Try.func42 (by kernel_rfl) rfl #[.string (⟨#[0]⟩ : ByteArray),.int .i64 (48 - (a0.size : Int))] rfl (by (try simp only [List.map_toArray,List.map_cons,List.map_nil]);first|done|rfl|(simp only [List.length_drop,List.length_take];rfl)) ?_;(with_reducible refine (strings_Repeat.calls (⟨#[0]⟩ : ByteArray) (48 - (a0.size : Int)) z00 _ (by have h_:=A5.out;rwa [show wrap64 (48 - (a0.size : Int)) = 48 - (a0.size : Int) from by (have hz_:=of_decide_eq_false c2b0);unfold wrap64;omega] at h_)).mono ?_);rintro e w7 ⟨rfl,hb⟩;refine ⟨_,rfl,?_⟩;have n0_:=zM (yT (by repeat first|(with_reducible first|exact HB.out|apply yA|apply yN|apply yD)|exact HB.out) hb);clear HB;have HB:=n0_;clear n0_;(try clear hb);(try clear hb2);(try clear hk);(try clear hi)))
  go_ret;exact ⟨by first|rfl|(simp [errW_none,errW_some] <;> rfl)|(simp [*,errW_none,errW_some] <;> rfl),by repeat first|(with_reducible first|exact HB.out|apply yA|apply yN|apply yD)|exact HB.out⟩
 rw [if_neg c6] at H;exact absurd H (by simp)

/-! ### ccm_Msg_wrong: function 47 -/
def ccm_Msg_wrong.j0 : Nat → Bool → Bool → Int → Int → Int → ByteArray → Option (Int)
  | 0, _, _, _, _, _, _ => none
  | k + 1, x7, x156000, x156001, x156002, x156003, x156004 => if x7 = true then (some 4) else (if (x156004.size : Int) = 48 then (some 0) else (some 3))
def ccm_Msg_wrong.f (k : Nat) (a0_0 : Bool) (a0_1 : Int) (a0_2 : Int) (a0_3 : Int) (a0_4 : ByteArray) : Option (Int) := if a0_1 < 1 then (some 4) else (if a0_1 > 7 then (ccm_Msg_wrong.j0 k (decide (a0_1 > 7)) a0_0 a0_1 a0_2 a0_3 a0_4) else (if a0_3 < 1 then (ccm_Msg_wrong.j0 k (decide (a0_3 < 1)) a0_0 a0_1 a0_2 a0_3 a0_4) else (ccm_Msg_wrong.j0 k (decide (a0_3 > 8191)) a0_0 a0_1 a0_2 a0_3 a0_4)))
theorem ccm_Msg_wrong.mono_l : ∀ k, (∀ y0 y1 y2 y3 y4 y5, LeO (ccm_Msg_wrong.j0 k y0 y1 y2 y3 y4 y5) (ccm_Msg_wrong.j0 (k + 1) y0 y1 y2 y3 y4 y5))
 | 0 => fun _ _ _ _ _ _ r h => by simp [ccm_Msg_wrong.j0] at h
 | k + 1 => by
  have ih0 := ccm_Msg_wrong.mono_l k
  intro y0 y1 y2 y3 y4 y5
  unfold ccm_Msg_wrong.j0
  repeat' first
  | (with_reducible exact ih0 _ _ _ _ _ _)
  | (with_reducible exact LeO.refl _)
  | (with_reducible exact LeO.none _)
  | (with_reducible refine LeO.ite ?_ ?_)
  | (with_reducible refine LeO.bind ?_ (fun _ => ?_))
  | exact ih0 _ _ _ _ _ _
  | exact LeO.none _
  | refine LeO.ite ?_ ?_
  | refine LeO.bind ?_ (fun _ => ?_)
theorem ccm_Msg_wrong.mono : ∀ a0 a1 a2 a3 a4 k, LeO (ccm_Msg_wrong.f k a0 a1 a2 a3 a4) (ccm_Msg_wrong.f (k + 1) a0 a1 a2 a3 a4) := by
 intro a0 a1 a2 a3 a4 k;have ih0:=ccm_Msg_wrong.mono_l k;unfold ccm_Msg_wrong.f
 repeat' first
  | (with_reducible exact ih0 _ _ _ _ _ _)
  | (with_reducible exact LeO.refl _)
  | (with_reducible exact LeO.none _)
  | (with_reducible refine LeO.ite ?_ ?_)
  | (with_reducible refine LeO.bind ?_ (fun _ => ?_))
  | exact ih0 _ _ _ _ _ _
  | exact LeO.none _
  | refine LeO.ite ?_ ?_
  | refine LeO.bind ?_ (fun _ => ?_)
set_option maxHeartbeats 8000000 in
set_option maxRecDepth 100000 in
theorem ccm_Msg_wrong.calls (k : Nat) (a0_0 : Bool) (a0_1 : Int) (a0_2 : Int) (a0_3 : Int) (a0_4 : ByteArray) (r : Int) (w : World) (h : ccm_Msg_wrong.f k a0_0 a0_1 a0_2 a0_3 a0_4 = some r) :
  Calls Try.prog 47 #[.agg #[.bool a0_0, .int .u8 a0_1, .int .u32 a0_2, .int .u16 a0_3, .string a0_4]] w fun e w' => e = .returned (.int .i64 r) ∧ Below w.heap.size w w' := by
 have hu62:=Try.underlying62;have HB:=zM (Below.refl w.heap.size w);have H : (if a0_1 < 1 then (some 4) else (if a0_1 > 7 then (ccm_Msg_wrong.j0 k (decide (a0_1 > 7)) a0_0 a0_1 a0_2 a0_3 a0_4) else (if a0_3 < 1 then (ccm_Msg_wrong.j0 k (decide (a0_3 < 1)) a0_0 a0_1 a0_2 a0_3 a0_4) else (ccm_Msg_wrong.j0 k (decide (a0_3 > 8191)) a0_0 a0_1 a0_2 a0_3 a0_4)))) = some r:=h;clear h;by_cases c2 : a0_1 < 1
 ·
  rw [if_pos c2] at H;have c2b0 : decide (a0_1 < 1) = true:=dT c2;clear c2;obtain rfl:=Option.some.inj H;go_enter Try.func47,Try.ntmps47
  go_wp2_with (first|((with_reducible refine gate_dst (N:=1) rfl ?_);refine box_event ?hg (N:=1) ?hd (cs:=#[.bool a0_0,.int .u8 a0_1,.int .u32 a0_2,.int .u16 a0_3,.string a0_4]) (t:=62) ?hr ?_;(case hd => rfl);(case hg => rfl);(case hr => first|(go_simp;done)|(go_simp;rfl));intro z02 hg w3 hbox hb;have n0_:=zM (yT (by repeat first|(with_reducible first|exact HB.out|apply yA|apply yN|apply yD)|exact HB.out) hb);have n1_:=zM (hbox);have n2_:=zM ((by rw [hg];exact (yZ (by repeat first|(with_reducible first|exact HB.out|apply yA|apply yN|apply yD)|exact HB.out)) : w.heap.size ≤ z02));have n3_:=zM ((by rw [hg];exact (yZ (by repeat first|(with_reducible first|exact HB.out|apply yA|apply yN|apply yD)|exact HB.out)) : w.heap.size ≤ z02));clear HB;have HB:=n0_;have z00:=n1_;have z17:=n2_;have z01:=n3_;clear n0_ n1_ n2_ n3_;clear hb hbox hg;obtain ⟨z0n,z0o,z0p,z0q,z0r,z0s,z0t,z0u,z0v,z0w⟩:=kc5 z00.out))
  go_ret;exact ⟨by first|rfl|(simp [errW_none,errW_some] <;> rfl)|(simp [*,errW_none,errW_some] <;> rfl),by repeat first|(with_reducible first|exact HB.out|apply yA|apply yN|apply yD|refine yS ?_ z01.out)|exact HB.out⟩
 rw [if_neg c2] at H;have c2b0 : decide (a0_1 < 1) = false:=dF c2;clear c2;have HC5:=zM H;clear H;go_enter Try.func47,Try.ntmps47
 go_upto_if 7 with (first|((with_reducible refine gate_dst (N:=1) rfl ?_);refine box_event ?hg (N:=1) ?hd (cs:=#[.bool a0_0,.int .u8 a0_1,.int .u32 a0_2,.int .u16 a0_3,.string a0_4]) (t:=62) ?hr ?_;(case hd => rfl);(case hg => rfl);(case hr => first|(go_simp;done)|(go_simp;rfl));intro z02 hg w6 hbox hb;have n0_:=zM (yT (by repeat first|(with_reducible first|exact HB.out|apply yA|apply yN|apply yD)|exact HB.out) hb);have n1_:=zM (hbox);have n2_:=zM ((by rw [hg];exact (yZ (by repeat first|(with_reducible first|exact HB.out|apply yA|apply yN|apply yD)|exact HB.out)) : w.heap.size ≤ z02));have n3_:=zM ((by rw [hg];exact (yZ (by repeat first|(with_reducible first|exact HB.out|apply yA|apply yN|apply yD)|exact HB.out)) : w.heap.size ≤ z02));clear HB;have HB:=n0_;have z00:=n1_;have z17:=n2_;have z01:=n3_;clear n0_ n1_ n2_ n3_;clear hb hbox hg;obtain ⟨z0x,z0y,z0z,z10,z11,z12,z13,z14,z15,z16⟩:=kc5 z00.out))
 (try simp only [Act.put,sA,sB,sC])
 go_cut [7] (fun v7 wc => ∃ (kq : Nat) (x7_4 : Bool),v7 = .bool x7_4 ∧ Aside0 (ccm_Msg_wrong.j0 kq x7_4 a0_0 a0_1 a0_2 a0_3 a0_4 = some r) ∧ Aside0 (kq ≤ k) ∧ Aside0 (wc.heap[z02]? = some (.cells #[.bool a0_0,.int .u8 a0_1,.int .u32 a0_2,.int .u16 a0_3,.string a0_4] 62 (0,0))) ∧ Aside0 (Below w.heap.size w wc))
 case first =>
  have H:=HC5.out;clear HC5;by_cases c8 : a0_1 > 7
  ·
   rw [if_pos c8] at H;have c8b0 : decide (7 < a0_1) = true:=dT c8;clear c8;(first|rw [c8b0]|(simp only [i64_w,i32_w];rw [c8b0])|skip)
   have H':=zM H;clear H;go_wp2;go_meet
   case rel => exact ⟨_,(decide (a0_1 > 7)),(by first|rfl|(simp;done)|(simp [*];done)),H',⟨by first|omega|exact Nat.le_refl _⟩,⟨by (with_reducible repeat first|apply zN|apply zD|apply zA);exact z00.out⟩,⟨by repeat first|(with_reducible first|exact HB.out|apply yA|apply yN|apply yD|refine yS ?_ z01.out)|exact HB.out⟩⟩
  rw [if_neg c8] at H;have c8b0 : decide (7 < a0_1) = false:=dF c8;clear c8;(first|rw [c8b0]|(simp only [i64_w,i32_w];rw [c8b0])|skip)
  by_cases c9 : a0_3 < 1
  ·
   rw [if_pos c9] at H;have c9b0 : decide (a0_3 < 1) = true:=dT c9;clear c9;have H':=zM H;clear H;obtain ⟨z03,z04,z05,z06,z07,z08,z09,z0a,z0b,z0c⟩:=kc5 z00.out;go_wp2;go_meet
   case rel => exact ⟨_,(decide (a0_3 < 1)),(by first|rfl|(simp;done)|(simp [*];done)),H',⟨by first|omega|exact Nat.le_refl _⟩,⟨by (with_reducible repeat first|apply zN|apply zD|apply zA);exact z00.out⟩,⟨by repeat first|(with_reducible first|exact HB.out|apply yA|apply yN|apply yD|refine yS ?_ z01.out)|exact HB.out⟩⟩
  rw [if_neg c9] at H;have c9b0 : decide (a0_3 < 1) = false:=dF c9;clear c9;have H':=zM H;clear H;obtain ⟨z0d,z0e,z0f,z0g,z0h,z0i,z0j,z0k,z0l,z0m⟩:=kc5 z00.out;go_wp2;go_meet
  case rel => exact ⟨_,(decide (a0_3 > 8191)),(by first|rfl|(simp;done)|(simp [*];done)),H',⟨by first|omega|exact Nat.le_refl _⟩,⟨by (with_reducible repeat first|apply zN|apply zD|apply zA);exact z00.out⟩,⟨by repeat first|(with_reducible first|exact HB.out|apply yA|apply yN|apply yD|refine yS ?_ z01.out)|exact HB.out⟩⟩
 case rest =>
  clear HC5;try clear c2
  try clear c2b0
  try clear p2
  try clear c4
  try clear c8
  try clear c8b0
  try clear c9
  try clear c9b0
  try clear z03
  try clear z04
  try clear z05
  try clear z06
  try clear z07
  try clear z0d
  try clear z0e
  try clear z0f
  try clear z0g
  try clear z0h
  try clear z0n
  try clear z0o
  try clear z0p
  try clear z0q
  try clear z0r
  try clear z0x
  try clear z0y
  try clear z0z
  try clear z10
  try clear z11
  try clear z08
  try clear z09
  try clear z0a
  try clear z0b
  try clear z0c
  try clear z0i
  try clear z0j
  try clear z0k
  try clear z0l
  try clear z0m
  try clear z0s
  try clear z0t
  try clear z0u
  try clear z0v
  try clear z0w
  try clear z12
  try clear z13
  try clear z14
  try clear z15
  try clear z16
  obtain ⟨kq,x7_4,rfl,HA,HJ4,z00,HB⟩:=hcut;cases kq with
 | zero => exact absurd HA.out (by simp [ccm_Msg_wrong.j0])
 | succ kj4 =>
   have H:=HA.out;clear HA;simp only [ccm_Msg_wrong.j0] at H;by_cases c12 : x7_4 = true
   ·
    subst c12;have H1 : (some 4) = some r:=by rw [if_pos rfl] at H;exact H
    clear H;have H:=H1;clear H1;obtain rfl:=Option.some.inj H;go_wp2;go_ret;exact ⟨by first|rfl|(simp [errW_none,errW_some] <;> rfl)|(simp [*,errW_none,errW_some] <;> rfl),by repeat first|(with_reducible first|exact HB.out|apply yA|apply yN|apply yD|refine yS ?_ z01.out)|exact HB.out⟩
   replace c12:=Bool.eq_false_iff.mpr c12;subst c12;have H1 : (if (a0_4.size : Int) = 48 then (some 0) else (some 3)) = some r:=by rw [if_neg (show ¬ (false = true) by decide)] at H;exact H
   clear H;have H:=H1;clear H1;by_cases c13 : (a0_4.size : Int) = 48
   ·
    rw [if_pos c13] at H;have c13b0 : ((a0_4.size : Int) == 48) = true:=beq_iff_eq.mpr c13;have c13b1 : ((a0_4.size : Int) != 48) = false:=bne_eq_false_iff_eq.mpr c13;clear c13;obtain rfl:=Option.some.inj H;obtain ⟨z18,z19,z1a,z1b,z1c,z1d,z1e,z1f,z1g,z1h⟩:=kc5 z00.out;go_wp2;go_ret;exact ⟨by first|rfl|(simp [errW_none,errW_some] <;> rfl)|(simp [*,errW_none,errW_some] <;> rfl),by repeat first|(with_reducible first|exact HB.out|apply yA|apply yN|apply yD|refine yS ?_ z01.out)|exact HB.out⟩
   rw [if_neg c13] at H;have c13b0 : ((a0_4.size : Int) == 48) = false:=beq_eq_false_iff_ne.mpr c13;have c13b1 : ((a0_4.size : Int) != 48) = true:=bne_iff_ne.mpr c13;obtain rfl:=Option.some.inj H;obtain ⟨z1i,z1j,z1k,z1l,z1m,z1n,z1o,z1p,z1q,z1r⟩:=kc5 z00.out;go_wp2;go_ret;exact ⟨by first|rfl|(simp [errW_none,errW_some] <;> rfl)|(simp [*,errW_none,errW_some] <;> rfl),by repeat first|(with_reducible first|exact HB.out|apply yA|apply yN|apply yD|refine yS ?_ z01.out)|exact HB.out⟩

end Go.Proofs.Ytapicoienpbdfaa.PPlanTells
