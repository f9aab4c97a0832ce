-- Written by a program of this work, after the translation.
import Derived.Test.YtapicoienpbdfaaPPlanTellsx0
import Derived.Test.YtapicoienpbdfaaPPlanTellsx5
import Derived.Test.YtapicoienpbdfaaPPlanTellsx6
namespace Go.Proofs.Ytapicoienpbdfaa.PPlanTells
open Go.RowKit Go.Proofs.YtapicoienpbdfaaW.PrintWords Go.Proofs.YtapicoienpbdfaaW.PrintLast Go.Proofs.YtapicoienpbdfaaW.PrintMore
attribute [local go_sem] max2_int min2_int max_two min_two max_three min_three max_four min_four   -- for this text's walks alone
set_option linter.unusedVariables false
set_option linter.unusedSimpArgs false

/-! ### carouselref16_Role: function 9 -/
def carouselref16_Role.j0 : Nat → Int → Bool → Int → Int → Int → Int → Int → Int → Int → Int → Int → Int → Int → Int → Int → Int → Int → Bool → Option (Int × Int)
  | 0, _, _, _, _, _, _, _, _, _, _, _, _, _, _, _, _, _, _ => none
  | k + 1, x1, x16, x126000, x126001, x126002, x126003, x126004, x126005, x126006, x126007, x126008, x126009, x126010, x126011, x126012, x126013, x126014, x126015 => if x16 = true then (some (1, 1)) else ((carouselref16_Far.f k x126000 x126001 x126002 x126003 x126004 x126005 x126006 x126007 x126008 x126009 x126010 x126011 x126012 x126013 x126014 x126015 x126001 1).bind fun bt127 => ((carouselref16_has.f k x126000 x126001 x126002 x126003 x126004 x126005 x126006 x126007 x126008 x126009 x126010 x126011 x126012 x126013 x126014 x126015 x1).bind fun t129 => (if t129 = true then (if x1 = bt127.1 then (some (2, 0)) else (some (0, (-1)))) else (some (0, (-1))))))
def carouselref16_Role.f (k : Nat) (a0_0 : Int) (a0_1 : Int) (a0_2 : Int) (a0_3 : Int) (a0_4 : Int) (a0_5 : Int) (a0_6 : Int) (a0_7 : Int) (a0_8 : Int) (a0_9 : Int) (a0_10 : Int) (a0_11 : Int) (a0_12 : Int) (a0_13 : Int) (a0_14 : Int) (a0_15 : Bool) (a1 : Int) : Option (Int × Int) := (carouselref16_has.f k a0_0 a0_1 a0_2 a0_3 a0_4 a0_5 a0_6 a0_7 a0_8 a0_9 a0_10 a0_11 a0_12 a0_13 a0_14 a0_15 a1).bind fun t126 => (if t126 = true then (carouselref16_Role.j0 k a1 (a1 == a0_1) a0_0 a0_1 a0_2 a0_3 a0_4 a0_5 a0_6 a0_7 a0_8 a0_9 a0_10 a0_11 a0_12 a0_13 a0_14 a0_15) else (carouselref16_Role.j0 k a1 false a0_0 a0_1 a0_2 a0_3 a0_4 a0_5 a0_6 a0_7 a0_8 a0_9 a0_10 a0_11 a0_12 a0_13 a0_14 a0_15))
theorem carouselref16_Role.mono_l : ∀ k, (∀ y0 y1 y2 y3 y4 y5 y6 y7 y8 y9 y10 y11 y12 y13 y14 y15 y16 y17, LeO (carouselref16_Role.j0 k y0 y1 y2 y3 y4 y5 y6 y7 y8 y9 y10 y11 y12 y13 y14 y15 y16 y17) (carouselref16_Role.j0 (k + 1) y0 y1 y2 y3 y4 y5 y6 y7 y8 y9 y10 y11 y12 y13 y14 y15 y16 y17))
 | 0 => fun _ _ _ _ _ _ _ _ _ _ _ _ _ _ _ _ _ _ r h => by simp [carouselref16_Role.j0] at h
 | k + 1 => by
  have ih0 := carouselref16_Role.mono_l k
  intro y0 y1 y2 y3 y4 y5 y6 y7 y8 y9 y10 y11 y12 y13 y14 y15 y16 y17
  unfold carouselref16_Role.j0
  repeat' first
  | (with_reducible exact ih0 _ _ _ _ _ _ _ _ _ _ _ _ _ _ _ _ _ _)
  | (with_reducible exact carouselref16_Far.mono _ _ _ _ _ _ _ _ _ _ _ _ _ _ _ _ _ _ _)
  | (with_reducible exact carouselref16_has.mono _ _ _ _ _ _ _ _ _ _ _ _ _ _ _ _ _ _)
  | (with_reducible exact LeO.refl _)
  | (with_reducible exact LeO.none _)
  | (with_reducible refine LeO.ite ?_ ?_)
  | (with_reducible refine LeO.bind ?_ (fun _ => ?_))
  | exact ih0 _ _ _ _ _ _ _ _ _ _ _ _ _ _ _ _ _ _
  | exact carouselref16_Far.mono _ _ _ _ _ _ _ _ _ _ _ _ _ _ _ _ _ _ _
  | exact carouselref16_has.mono _ _ _ _ _ _ _ _ _ _ _ _ _ _ _ _ _ _
  | exact LeO.none _
  | refine LeO.ite ?_ ?_
  | refine LeO.bind ?_ (fun _ => ?_)
theorem carouselref16_Role.mono : ∀ a0 a1 a2 a3 a4 a5 a6 a7 a8 a9 a10 a11 a12 a13 a14 a15 a16 k, LeO (carouselref16_Role.f k a0 a1 a2 a3 a4 a5 a6 a7 a8 a9 a10 a11 a12 a13 a14 a15 a16) (carouselref16_Role.f (k + 1) a0 a1 a2 a3 a4 a5 a6 a7 a8 a9 a10 a11 a12 a13 a14 a15 a16) := by
 intro a0 a1 a2 a3 a4 a5 a6 a7 a8 a9 a10 a11 a12 a13 a14 a15 a16 k;have ih0:=carouselref16_Role.mono_l k;unfold carouselref16_Role.f
 repeat' first
  | (with_reducible exact ih0 _ _ _ _ _ _ _ _ _ _ _ _ _ _ _ _ _ _)
  | (with_reducible exact carouselref16_Far.mono _ _ _ _ _ _ _ _ _ _ _ _ _ _ _ _ _ _ _)
  | (with_reducible exact carouselref16_has.mono _ _ _ _ _ _ _ _ _ _ _ _ _ _ _ _ _ _)
  | (with_reducible exact LeO.refl _)
  | (with_reducible exact LeO.none _)
  | (with_reducible refine LeO.ite ?_ ?_)
  | (with_reducible refine LeO.bind ?_ (fun _ => ?_))
  | exact ih0 _ _ _ _ _ _ _ _ _ _ _ _ _ _ _ _ _ _
  | exact carouselref16_Far.mono _ _ _ _ _ _ _ _ _ _ _ _ _ _ _ _ _ _ _
  | exact carouselref16_has.mono _ _ _ _ _ _ _ _ _ _ _ _ _ _ _ _ _ _
  | exact LeO.none _
  | refine LeO.ite ?_ ?_
  | refine LeO.bind ?_ (fun _ => ?_)
set_option maxHeartbeats 8000000 in
set_option maxRecDepth 100000 in
theorem carouselref16_Role.calls (k : Nat) (a0_0 : Int) (a0_1 : Int) (a0_2 : Int) (a0_3 : Int) (a0_4 : Int) (a0_5 : Int) (a0_6 : Int) (a0_7 : Int) (a0_8 : Int) (a0_9 : Int) (a0_10 : Int) (a0_11 : Int) (a0_12 : Int) (a0_13 : Int) (a0_14 : Int) (a0_15 : Bool) (a1 : Int) (r1 : Int) (r2 : Int) (w : World) (h : carouselref16_Role.f k a0_0 a0_1 a0_2 a0_3 a0_4 a0_5 a0_6 a0_7 a0_8 a0_9 a0_10 a0_11 a0_12 a0_13 a0_14 a0_15 a1 = some (r1, r2)) :
  Calls Try.prog 9 #[.agg #[.int .i64 a0_0, .int .i64 a0_1, .int .u8 a0_2, .int .u16 a0_3, .int .u16 a0_4, .int .i64 a0_5, .int .i64 a0_6, .int .i64 a0_7, .int .i64 a0_8, .int .i64 a0_9, .int .i64 a0_10, .int .i64 a0_11, .int .i64 a0_12, .int .i64 a0_13, .int .i64 a0_14, .bool a0_15], .int .i64 a1] w fun e w' => e = .returned (.tuple #[.int .i64 r1, .int .i64 r2]) ∧ Below w.heap.size w w' := by
 have hu25:=Try.underlying25;have HB:=zM (Below.refl w.heap.size w);have H : ((carouselref16_has.f k a0_0 a0_1 a0_2 a0_3 a0_4 a0_5 a0_6 a0_7 a0_8 a0_9 a0_10 a0_11 a0_12 a0_13 a0_14 a0_15 a1).bind fun z4s => (if z4s = true then (carouselref16_Role.j0 k a1 (a1 == a0_1) a0_0 a0_1 a0_2 a0_3 a0_4 a0_5 a0_6 a0_7 a0_8 a0_9 a0_10 a0_11 a0_12 a0_13 a0_14 a0_15) else (carouselref16_Role.j0 k a1 false a0_0 a0_1 a0_2 a0_3 a0_4 a0_5 a0_6 a0_7 a0_8 a0_9 a0_10 a0_11 a0_12 a0_13 a0_14 a0_15))) = some (r1,r2):=h;clear h;have HC3:=zM H;clear H;go_enter Try.func9,Try.ntmps9
 go_upto_region 1 with (first|((with_reducible refine gate_dst (N:=2) rfl ?_);refine box_event ?hg (N:=2) ?hd (cs:=#[.int .i64 a0_0,.int .i64 a0_1,.int .u8 a0_2,.int .u16 a0_3,.int .u16 a0_4,.int .i64 a0_5,.int .i64 a0_6,.int .i64 a0_7,.int .i64 a0_8,.int .i64 a0_9,.int .i64 a0_10,.int .i64 a0_11,.int .i64 a0_12,.int .i64 a0_13,.int .i64 a0_14,.bool a0_15]) (t:=25) ?hr ?_;(case hd => rfl);(case hg => rfl);(case hr => first|(go_simp;done)|(go_simp;rfl));intro z02 hg w4 hbox hb;have n0_:=zM (yT (by repeat first|(with_reducible first|exact HB.out|apply yA|apply yN|apply yD)|exact HB.out) hb);have n1_:=zM (hbox);have n2_:=zM ((by rw [hg];exact (yZ (by repeat first|(with_reducible first|exact HB.out|apply yA|apply yN|apply yD)|exact HB.out)) : w.heap.size ≤ z02));have n3_:=zM ((by rw [hg];exact (yZ (by repeat first|(with_reducible first|exact HB.out|apply yA|apply yN|apply yD)|exact HB.out)) : w.heap.size ≤ z02));clear HB;have HB:=n0_;have z00:=n1_;have z87:=n2_;have z01:=n3_;clear n0_ n1_ n2_ n3_;clear hb hbox hg))
 (try simp only [Act.put,sA,sB,sC])
 go_cut [16] (fun v16 wc => ∃ (kq : Nat) (x16_2 : Bool),v16 = .bool x16_2 ∧ Aside0 (carouselref16_Role.j0 kq a1 x16_2 a0_0 a0_1 a0_2 a0_3 a0_4 a0_5 a0_6 a0_7 a0_8 a0_9 a0_10 a0_11 a0_12 a0_13 a0_14 a0_15 = some (r1,r2)) ∧ Aside0 (kq ≤ k) ∧ Aside0 (wc.heap[z02]? = some (.cells #[.int .i64 a0_0,.int .i64 a0_1,.int .u8 a0_2,.int .u16 a0_3,.int .u16 a0_4,.int .i64 a0_5,.int .i64 a0_6,.int .i64 a0_7,.int .i64 a0_8,.int .i64 a0_9,.int .i64 a0_10,.int .i64 a0_11,.int .i64 a0_12,.int .i64 a0_13,.int .i64 a0_14,.bool a0_15] 25 (0,0))) ∧ Aside0 (Below w.heap.size w wc))
 case first =>
  have H:=HC3.out;clear HC3;replace H:=Option.bind_eq_some_iff.mp H;obtain ⟨z4s,A50,H⟩:=H;try dsimp only at H
  have A5:=zM A50;clear A50;by_cases c6 : z4s = true
  ·
   as_aux_lemma =>
    subst c6;have H1 : (carouselref16_Role.j0 k a1 (a1 == a0_1) a0_0 a0_1 a0_2 a0_3 a0_4 a0_5 a0_6 a0_7 a0_8 a0_9 a0_10 a0_11 a0_12 a0_13 a0_14 a0_15) = some (r1,r2):=by rw [if_pos rfl] at H;exact H
    clear H;have H:=H1;clear H1;have H':=zM H;clear H;obtain ⟨z1o,z1p,z1q,z1r,z1s,z1t,z1u,z1v,z1w,z1x,z0g,z0h,z0i,z0j,z0k,z0l,z1y,z1z,z20,z21,z22,z23,z24,z25,z26,z27,z0m,z0n,z0o,z0p,z0q,z0r⟩:=kc16 z00.out;go_wp2_with (first|((with_reducible refine gate_callee (f:=34) rfl ?_);refine goesL_ (some 10) rfl rfl Try.func34 (by kernel_rfl) rfl #[.agg #[.int .i64 a0_0,.int .i64 a0_1,.int .u8 a0_2,.int .u16 a0_3,.int .u16 a0_4,.int .i64 a0_5,.int .i64 a0_6,.int .i64 a0_7,.int .i64 a0_8,.int .i64 a0_9,.int .i64 a0_10,.int .i64 a0_11,.int .i64 a0_12,.int .i64 a0_13,.int .i64 a0_14,.bool a0_15],.int .i64 a1] rfl (by (try simp only [List.map_toArray,List.map_cons,List.map_nil]);first|done|rfl|(simp only [List.length_drop,List.length_take];rfl)) ?_;(with_reducible refine (carouselref16_has.calls k a0_0 a0_1 a0_2 a0_3 a0_4 a0_5 a0_6 a0_7 a0_8 a0_9 a0_10 a0_11 a0_12 a0_13 a0_14 a0_15 a1 true _ A5.out).mono ?_);rintro e w8 ⟨rfl,hb⟩;refine ⟨_,rfl,?_⟩;have n0_:=zM (zB (g:=z02) (o:=.cells #[.int .i64 a0_0,.int .i64 a0_1,.int .u8 a0_2,.int .u16 a0_3,.int .u16 a0_4,.int .i64 a0_5,.int .i64 a0_6,.int .i64 a0_7,.int .i64 a0_8,.int .i64 a0_9,.int .i64 a0_10,.int .i64 a0_11,.int .i64 a0_12,.int .i64 a0_13,.int .i64 a0_14,.bool a0_15] 25 (0,0)) (by (with_reducible repeat first|apply zN|apply zD|apply zA);exact z00.out) hb);have n1_:=zM (yT (by repeat first|(with_reducible first|exact HB.out|apply yA|apply yN|apply yD|refine yS ?_ z01.out)|exact HB.out) hb);clear z00;clear HB;have z00:=n0_;have HB:=n1_;clear n0_ n1_;(try clear hb);(try clear hb2);(try clear hk);(try clear hi);obtain ⟨z28,z29,z2a,z2b,z2c,z2d,z2e,z2f,z2g,z2h,z0s,z0t,z0u,z0v,z0w,z0x,z2i,z2j,z2k,z2l,z2m,z2n,z2o,z2p,z2q,z2r,z0y,z0z,z10,z11,z12,z13⟩:=kc16 z00.out))
    go_meet
    case rel => exact ⟨_,((a1 == a0_1)),(by first|rfl|(simp;done)|(simp [*];done)),H',⟨by first|omega|exact Nat.le_refl _⟩,⟨by (with_reducible repeat first|apply zN|apply zD|apply zA);exact z00.out⟩,⟨by repeat first|(with_reducible first|exact HB.out|apply yA|apply yN|apply yD|refine yS ?_ z01.out)|exact HB.out⟩⟩
  as_aux_lemma =>
   replace c6:=Bool.eq_false_iff.mpr c6;subst c6;have H1 : (carouselref16_Role.j0 k a1 false a0_0 a0_1 a0_2 a0_3 a0_4 a0_5 a0_6 a0_7 a0_8 a0_9 a0_10 a0_11 a0_12 a0_13 a0_14 a0_15) = some (r1,r2):=by rw [if_neg (show ¬ (false = true) by decide)] at H;exact H
   clear H;have H:=H1;clear H1;have H':=zM H;clear H;obtain ⟨z14,z15,z16,z17,z18,z19,z1a,z1b,z1c,z1d,z03,z04,z05,z06,z07,z08,z1e,z1f,z1g,z1h,z1i,z1j,z1k,z1l,z1m,z1n,z09,z0a,z0b,z0c,z0d,z0e⟩:=kc16 z00.out;go_wp2_with (first|((with_reducible refine gate_callee (f:=34) rfl ?_);refine goesL_ (some 10) rfl rfl Try.func34 (by kernel_rfl) rfl #[.agg #[.int .i64 a0_0,.int .i64 a0_1,.int .u8 a0_2,.int .u16 a0_3,.int .u16 a0_4,.int .i64 a0_5,.int .i64 a0_6,.int .i64 a0_7,.int .i64 a0_8,.int .i64 a0_9,.int .i64 a0_10,.int .i64 a0_11,.int .i64 a0_12,.int .i64 a0_13,.int .i64 a0_14,.bool a0_15],.int .i64 a1] rfl (by (try simp only [List.map_toArray,List.map_cons,List.map_nil]);first|done|rfl|(simp only [List.length_drop,List.length_take];rfl)) ?_;(with_reducible refine (carouselref16_has.calls k a0_0 a0_1 a0_2 a0_3 a0_4 a0_5 a0_6 a0_7 a0_8 a0_9 a0_10 a0_11 a0_12 a0_13 a0_14 a0_15 a1 false _ A5.out).mono ?_);rintro e w11 ⟨rfl,hb⟩;refine ⟨_,rfl,?_⟩;have n0_:=zM (zB (g:=z02) (o:=.cells #[.int .i64 a0_0,.int .i64 a0_1,.int .u8 a0_2,.int .u16 a0_3,.int .u16 a0_4,.int .i64 a0_5,.int .i64 a0_6,.int .i64 a0_7,.int .i64 a0_8,.int .i64 a0_9,.int .i64 a0_10,.int .i64 a0_11,.int .i64 a0_12,.int .i64 a0_13,.int .i64 a0_14,.bool a0_15] 25 (0,0)) (by (with_reducible repeat first|apply zN|apply zD|apply zA);exact z00.out) hb);have n1_:=zM (yT (by repeat first|(with_reducible first|exact HB.out|apply yA|apply yN|apply yD|refine yS ?_ z01.out)|exact HB.out) hb);clear z00;clear HB;have z00:=n0_;have HB:=n1_;clear n0_ n1_;(try clear hb);(try clear hb2);(try clear hk);(try clear hi)))
   go_meet
   case rel => exact ⟨_,(false),(by first|rfl|(simp;done)|(simp [*];done)),H',⟨by first|omega|exact Nat.le_refl _⟩,⟨by (with_reducible repeat first|apply zN|apply zD|apply zA);exact z00.out⟩,⟨by repeat first|(with_reducible first|exact HB.out|apply yA|apply yN|apply yD|refine yS ?_ z01.out)|exact HB.out⟩⟩
 case rest =>
  clear HC3;try clear p2
  try clear c3
  try clear c6
  try clear c9
  try clear z14
  try clear z15
  try clear z03
  try clear z04
  try clear z05
  try clear z06
  try clear z07
  try clear z08
  try clear z16
  try clear z17
  try clear z18
  try clear z19
  try clear z1a
  try clear z1b
  try clear z1c
  try clear z1d
  try clear z1o
  try clear z1p
  try clear z0g
  try clear z0h
  try clear z0i
  try clear z0j
  try clear z0k
  try clear z0l
  try clear z1q
  try clear z1r
  try clear z1s
  try clear z1t
  try clear z1u
  try clear z1v
  try clear z1w
  try clear z1x
  try clear z28
  try clear z29
  try clear z0s
  try clear z0t
  try clear z0u
  try clear z0v
  try clear z0w
  try clear z0x
  try clear z2a
  try clear z2b
  try clear z2c
  try clear z2d
  try clear z2e
  try clear z2f
  try clear z2g
  try clear z2h
  try clear z1e
  try clear z1f
  try clear z09
  try clear z0a
  try clear z0b
  try clear z0c
  try clear z0d
  try clear z0e
  try clear z1g
  try clear z1h
  try clear z1i
  try clear z1j
  try clear z1k
  try clear z1l
  try clear z1m
  try clear z1n
  try clear z1y
  try clear z1z
  try clear z0m
  try clear z0n
  try clear z0o
  try clear z0p
  try clear z0q
  try clear z0r
  try clear z20
  try clear z21
  try clear z22
  try clear z23
  try clear z24
  try clear z25
  try clear z26
  try clear z27
  try clear z2i
  try clear z2j
  try clear z0y
  try clear z0z
  try clear z10
  try clear z11
  try clear z12
  try clear z13
  try clear z2k
  try clear z2l
  try clear z2m
  try clear z2n
  try clear z2o
  try clear z2p
  try clear z2q
  try clear z2r
  obtain ⟨kq,x16_2,rfl,HA,HJ2,z00,HB⟩:=hcut;cases kq with
 | zero => exact absurd HA.out (by simp [carouselref16_Role.j0])
 | succ kj2 =>
   have H:=HA.out;clear HA;simp only [carouselref16_Role.j0] at H;by_cases c12 : x16_2 = true
   ·
    as_aux_lemma =>
     subst c12;have H1 : (some (1,1)) = some (r1,r2):=by rw [if_pos rfl] at H;exact H
     clear H;have H:=H1;clear H1;simp only [Option.some.injEq,Prod.mk.injEq] at H;obtain ⟨rfl,rfl⟩:=H;go_wp2;go_ret2
     exact ⟨by first|rfl|(simp [errW_none,errW_some] <;> rfl)|(simp [*,errW_none,errW_some] <;> rfl),by repeat first|(with_reducible first|exact HB.out|apply yA|apply yN|apply yD|refine yS ?_ z01.out)|exact HB.out⟩
   replace c12:=Bool.eq_false_iff.mpr c12;subst c12;have H1 : ((carouselref16_Far.f kj2 a0_0 a0_1 a0_2 a0_3 a0_4 a0_5 a0_6 a0_7 a0_8 a0_9 a0_10 a0_11 a0_12 a0_13 a0_14 a0_15 a0_1 1).bind fun bt127 => ((carouselref16_has.f kj2 a0_0 a0_1 a0_2 a0_3 a0_4 a0_5 a0_6 a0_7 a0_8 a0_9 a0_10 a0_11 a0_12 a0_13 a0_14 a0_15 a1).bind fun z4t => (if z4t = true then (if a1 = bt127.1 then (some (2,0)) else (some (0,(-1)))) else (some (0,(-1)))))) = some (r1,r2):=by rw [if_neg (show ¬ (false = true) by decide)] at H;exact H
   clear H;have H:=H1;clear H1;replace H:=Option.bind_eq_some_iff.mp H;obtain ⟨⟨z0f,z4u⟩,A130,H⟩:=H;try dsimp only at H
   have A13:=zM A130;clear A130;replace H:=Option.bind_eq_some_iff.mp H;obtain ⟨z4t,A140,H⟩:=H;try dsimp only at H
   have A14:=zM A140;clear A140;by_cases c15 : z4t = true
   ·
    subst c15;have H1 : (if a1 = z0f then (some (2,0)) else (some (0,(-1)))) = some (r1,r2):=by rw [if_pos rfl] at H;exact H
    clear H;have H:=H1;clear H1;by_cases c16 : a1 = z0f
    ·
     as_aux_lemma =>
      rw [if_pos c16] at H;have c16b0 : (a1 == z0f) = true:=beq_iff_eq.mpr c16;have c16b1 : (a1 != z0f) = false:=bne_eq_false_iff_eq.mpr c16;clear c16;simp only [Option.some.injEq,Prod.mk.injEq] at H;obtain ⟨rfl,rfl⟩:=H;obtain ⟨z4v,z4w,z4x,z4y,z4z,z50,z51,z52,z53,z54,z2s,z2t,z2u,z2v,z2w,z2x,z55,z56,z57,z58,z59,z5a,z5b,z5c,z5d,z5e,z2y,z2z,z30,z31,z32,z33⟩:=kc16 z00.out;go_wp2_with (first|((with_reducible refine gate_callee (f:=11) rfl ?_);refine goesL_ (some 21) rfl rfl Try.func11 (by kernel_rfl) rfl #[.agg #[.int .i64 a0_0,.int .i64 a0_1,.int .u8 a0_2,.int .u16 a0_3,.int .u16 a0_4,.int .i64 a0_5,.int .i64 a0_6,.int .i64 a0_7,.int .i64 a0_8,.int .i64 a0_9,.int .i64 a0_10,.int .i64 a0_11,.int .i64 a0_12,.int .i64 a0_13,.int .i64 a0_14,.bool a0_15],.int .i64 a0_1,.int .i64 1] rfl (by (try simp only [List.map_toArray,List.map_cons,List.map_nil]);first|done|rfl|(simp only [List.length_drop,List.length_take];rfl)) ?_;(with_reducible refine (carouselref16_Far.calls kj2 a0_0 a0_1 a0_2 a0_3 a0_4 a0_5 a0_6 a0_7 a0_8 a0_9 a0_10 a0_11 a0_12 a0_13 a0_14 a0_15 a0_1 1 z0f z4u _ A13.out).mono ?_);rintro e w18 ⟨rfl,hb⟩;refine ⟨_,rfl,?_⟩;have n0_:=zM (zB (g:=z02) (o:=.cells #[.int .i64 a0_0,.int .i64 a0_1,.int .u8 a0_2,.int .u16 a0_3,.int .u16 a0_4,.int .i64 a0_5,.int .i64 a0_6,.int .i64 a0_7,.int .i64 a0_8,.int .i64 a0_9,.int .i64 a0_10,.int .i64 a0_11,.int .i64 a0_12,.int .i64 a0_13,.int .i64 a0_14,.bool a0_15] 25 (0,0)) (by (with_reducible repeat first|apply zN|apply zD|apply zA);exact z00.out) hb);have n1_:=zM (yT (by repeat first|(with_reducible first|exact HB.out|apply yA|apply yN|apply yD|refine yS ?_ z01.out)|exact HB.out) hb);clear z00;clear HB;have z00:=n0_;have HB:=n1_;clear n0_ n1_;(try clear hb);(try clear hb2);(try clear hk);(try clear hi);obtain ⟨z5f,z5g,z5h,z5i,z5j,z5k,z5l,z5m,z5n,z5o,z34,z35,z36,z37,z38,z39,z5p,z5q,z5r,z5s,z5t,z5u,z5v,z5w,z5x,z5y,z3a,z3b,z3c,z3d,z3e,z3f⟩:=kc16 z00.out)|((with_reducible refine gate_callee (f:=34) rfl ?_);refine goesL_ (some 26) rfl rfl Try.func34 (by kernel_rfl) rfl #[.agg #[.int .i64 a0_0,.int .i64 a0_1,.int .u8 a0_2,.int .u16 a0_3,.int .u16 a0_4,.int .i64 a0_5,.int .i64 a0_6,.int .i64 a0_7,.int .i64 a0_8,.int .i64 a0_9,.int .i64 a0_10,.int .i64 a0_11,.int .i64 a0_12,.int .i64 a0_13,.int .i64 a0_14,.bool a0_15],.int .i64 a1] rfl (by (try simp only [List.map_toArray,List.map_cons,List.map_nil]);first|done|rfl|(simp only [List.length_drop,List.length_take];rfl)) ?_;(with_reducible refine (carouselref16_has.calls kj2 a0_0 a0_1 a0_2 a0_3 a0_4 a0_5 a0_6 a0_7 a0_8 a0_9 a0_10 a0_11 a0_12 a0_13 a0_14 a0_15 a1 true _ A14.out).mono ?_);rintro e w20 ⟨rfl,hb⟩;refine ⟨_,rfl,?_⟩;have n0_:=zM (zB (g:=z02) (o:=.cells #[.int .i64 a0_0,.int .i64 a0_1,.int .u8 a0_2,.int .u16 a0_3,.int .u16 a0_4,.int .i64 a0_5,.int .i64 a0_6,.int .i64 a0_7,.int .i64 a0_8,.int .i64 a0_9,.int .i64 a0_10,.int .i64 a0_11,.int .i64 a0_12,.int .i64 a0_13,.int .i64 a0_14,.bool a0_15] 25 (0,0)) (by (with_reducible repeat first|apply zN|apply zD|apply zA);exact z00.out) hb);have n1_:=zM (yT (by repeat first|(with_reducible first|exact HB.out|apply yA|apply yN|apply yD|refine yS ?_ z01.out)|exact HB.out) hb);clear z00;clear HB;have z00:=n0_;have HB:=n1_;clear n0_ n1_;(try clear hb);(try clear hb2);(try clear hk);(try clear hi)))
      go_ret2
      exact ⟨by first|rfl|(simp [errW_none,errW_some] <;> rfl)|(simp [*,errW_none,errW_some] <;> rfl),by repeat first|(with_reducible first|exact HB.out|apply yA|apply yN|apply yD|refine yS ?_ z01.out)|exact HB.out⟩
    as_aux_lemma =>
     rw [if_neg c16] at H;have c16b0 : (a1 == z0f) = false:=beq_eq_false_iff_ne.mpr c16;have c16b1 : (a1 != z0f) = true:=bne_iff_ne.mpr c16;simp only [Option.some.injEq,Prod.mk.injEq] at H;obtain ⟨rfl,rfl⟩:=H;obtain ⟨z5z,z60,z61,z62,z63,z64,z65,z66,z67,z68,z3g,z3h,z3i,z3j,z3k,z3l,z69,z6a,z6b,z6c,z6d,z6e,z6f,z6g,z6h,z6i,z3m,z3n,z3o,z3p,z3q,z3r⟩:=kc16 z00.out;go_wp2_with (first|((with_reducible refine gate_callee (f:=11) rfl ?_);refine goesL_ (some 21) rfl rfl Try.func11 (by kernel_rfl) rfl #[.agg #[.int .i64 a0_0,.int .i64 a0_1,.int .u8 a0_2,.int .u16 a0_3,.int .u16 a0_4,.int .i64 a0_5,.int .i64 a0_6,.int .i64 a0_7,.int .i64 a0_8,.int .i64 a0_9,.int .i64 a0_10,.int .i64 a0_11,.int .i64 a0_12,.int .i64 a0_13,.int .i64 a0_14,.bool a0_15],.int .i64 a0_1,.int .i64 1] rfl (by (try simp only [List.map_toArray,List.map_cons,List.map_nil]);first|done|rfl|(simp only [List.length_drop,List.length_take];rfl)) ?_;(with_reducible refine (carouselref16_Far.calls kj2 a0_0 a0_1 a0_2 a0_3 a0_4 a0_5 a0_6 a0_7 a0_8 a0_9 a0_10 a0_11 a0_12 a0_13 a0_14 a0_15 a0_1 1 z0f z4u _ A13.out).mono ?_);rintro e w22 ⟨rfl,hb⟩;refine ⟨_,rfl,?_⟩;have n0_:=zM (zB (g:=z02) (o:=.cells #[.int .i64 a0_0,.int .i64 a0_1,.int .u8 a0_2,.int .u16 a0_3,.int .u16 a0_4,.int .i64 a0_5,.int .i64 a0_6,.int .i64 a0_7,.int .i64 a0_8,.int .i64 a0_9,.int .i64 a0_10,.int .i64 a0_11,.int .i64 a0_12,.int .i64 a0_13,.int .i64 a0_14,.bool a0_15] 25 (0,0)) (by (with_reducible repeat first|apply zN|apply zD|apply zA);exact z00.out) hb);have n1_:=zM (yT (by repeat first|(with_reducible first|exact HB.out|apply yA|apply yN|apply yD|refine yS ?_ z01.out)|exact HB.out) hb);clear z00;clear HB;have z00:=n0_;have HB:=n1_;clear n0_ n1_;(try clear hb);(try clear hb2);(try clear hk);(try clear hi);obtain ⟨z6j,z6k,z6l,z6m,z6n,z6o,z6p,z6q,z6r,z6s,z3s,z3t,z3u,z3v,z3w,z3x,z6t,z6u,z6v,z6w,z6x,z6y,z6z,z70,z71,z72,z3y,z3z,z40,z41,z42,z43⟩:=kc16 z00.out)|((with_reducible refine gate_callee (f:=34) rfl ?_);refine goesL_ (some 26) rfl rfl Try.func34 (by kernel_rfl) rfl #[.agg #[.int .i64 a0_0,.int .i64 a0_1,.int .u8 a0_2,.int .u16 a0_3,.int .u16 a0_4,.int .i64 a0_5,.int .i64 a0_6,.int .i64 a0_7,.int .i64 a0_8,.int .i64 a0_9,.int .i64 a0_10,.int .i64 a0_11,.int .i64 a0_12,.int .i64 a0_13,.int .i64 a0_14,.bool a0_15],.int .i64 a1] rfl (by (try simp only [List.map_toArray,List.map_cons,List.map_nil]);first|done|rfl|(simp only [List.length_drop,List.length_take];rfl)) ?_;(with_reducible refine (carouselref16_has.calls kj2 a0_0 a0_1 a0_2 a0_3 a0_4 a0_5 a0_6 a0_7 a0_8 a0_9 a0_10 a0_11 a0_12 a0_13 a0_14 a0_15 a1 true _ A14.out).mono ?_);rintro e w24 ⟨rfl,hb⟩;refine ⟨_,rfl,?_⟩;have n0_:=zM (zB (g:=z02) (o:=.cells #[.int .i64 a0_0,.int .i64 a0_1,.int .u8 a0_2,.int .u16 a0_3,.int .u16 a0_4,.int .i64 a0_5,.int .i64 a0_6,.int .i64 a0_7,.int .i64 a0_8,.int .i64 a0_9,.int .i64 a0_10,.int .i64 a0_11,.int .i64 a0_12,.int .i64 a0_13,.int .i64 a0_14,.bool a0_15] 25 (0,0)) (by (with_reducible repeat first|apply zN|apply zD|apply zA);exact z00.out) hb);have n1_:=zM (yT (by repeat first|(with_reducible first|exact HB.out|apply yA|apply yN|apply yD|refine yS ?_ z01.out)|exact HB.out) hb);clear z00;clear HB;have z00:=n0_;have HB:=n1_;clear n0_ n1_;(try clear hb);(try clear hb2);(try clear hk);(try clear hi)))
     go_ret2
     exact ⟨by first|rfl|(simp [errW_none,errW_some] <;> rfl)|(simp [*,errW_none,errW_some] <;> rfl),by repeat first|(with_reducible first|exact HB.out|apply yA|apply yN|apply yD|refine yS ?_ z01.out)|exact HB.out⟩
   as_aux_lemma =>
    replace c15:=Bool.eq_false_iff.mpr c15;subst c15;have H1 : (some (0,(-1))) = some (r1,r2):=by rw [if_neg (show ¬ (false = true) by decide)] at H;exact H
    clear H;have H:=H1;clear H1;simp only [Option.some.injEq,Prod.mk.injEq] at H;obtain ⟨rfl,rfl⟩:=H;obtain ⟨z73,z74,z75,z76,z77,z78,z79,z7a,z7b,z7c,z44,z45,z46,z47,z48,z49,z7d,z7e,z7f,z7g,z7h,z7i,z7j,z7k,z7l,z7m,z4a,z4b,z4c,z4d,z4e,z4f⟩:=kc16 z00.out;go_wp2_with (first|((with_reducible refine gate_callee (f:=11) rfl ?_);refine goesL_ (some 21) rfl rfl Try.func11 (by kernel_rfl) rfl #[.agg #[.int .i64 a0_0,.int .i64 a0_1,.int .u8 a0_2,.int .u16 a0_3,.int .u16 a0_4,.int .i64 a0_5,.int .i64 a0_6,.int .i64 a0_7,.int .i64 a0_8,.int .i64 a0_9,.int .i64 a0_10,.int .i64 a0_11,.int .i64 a0_12,.int .i64 a0_13,.int .i64 a0_14,.bool a0_15],.int .i64 a0_1,.int .i64 1] rfl (by (try simp only [List.map_toArray,List.map_cons,List.map_nil]);first|done|rfl|(simp only [List.length_drop,List.length_take];rfl)) ?_;(with_reducible refine (carouselref16_Far.calls kj2 a0_0 a0_1 a0_2 a0_3 a0_4 a0_5 a0_6 a0_7 a0_8 a0_9 a0_10 a0_11 a0_12 a0_13 a0_14 a0_15 a0_1 1 z0f z4u _ A13.out).mono ?_);rintro e w26 ⟨rfl,hb⟩;refine ⟨_,rfl,?_⟩;have n0_:=zM (zB (g:=z02) (o:=.cells #[.int .i64 a0_0,.int .i64 a0_1,.int .u8 a0_2,.int .u16 a0_3,.int .u16 a0_4,.int .i64 a0_5,.int .i64 a0_6,.int .i64 a0_7,.int .i64 a0_8,.int .i64 a0_9,.int .i64 a0_10,.int .i64 a0_11,.int .i64 a0_12,.int .i64 a0_13,.int .i64 a0_14,.bool a0_15] 25 (0,0)) (by (with_reducible repeat first|apply zN|apply zD|apply zA);exact z00.out) hb);have n1_:=zM (yT (by repeat first|(with_reducible first|exact HB.out|apply yA|apply yN|apply yD|refine yS ?_ z01.out)|exact HB.out) hb);clear z00;clear HB;have z00:=n0_;have HB:=n1_;clear n0_ n1_;(try clear hb);(try clear hb2);(try clear hk);(try clear hi);obtain ⟨z7n,z7o,z7p,z7q,z7r,z7s,z7t,z7u,z7v,z7w,z4g,z4h,z4i,z4j,z4k,z4l,z7x,z7y,z7z,z80,z81,z82,z83,z84,z85,z86,z4m,z4n,z4o,z4p,z4q,z4r⟩:=kc16 z00.out)|((with_reducible refine gate_callee (f:=34) rfl ?_);refine goesL_ (some 26) rfl rfl Try.func34 (by kernel_rfl) rfl #[.agg #[.int .i64 a0_0,.int .i64 a0_1,.int .u8 a0_2,.int .u16 a0_3,.int .u16 a0_4,.int .i64 a0_5,.int .i64 a0_6,.int .i64 a0_7,.int .i64 a0_8,.int .i64 a0_9,.int .i64 a0_10,.int .i64 a0_11,.int .i64 a0_12,.int .i64 a0_13,.int .i64 a0_14,.bool a0_15],.int .i64 a1] rfl (by (try simp only [List.map_toArray,List.map_cons,List.map_nil]);first|done|rfl|(simp only [List.length_drop,List.length_take];rfl)) ?_;(with_reducible refine (carouselref16_has.calls kj2 a0_0 a0_1 a0_2 a0_3 a0_4 a0_5 a0_6 a0_7 a0_8 a0_9 a0_10 a0_11 a0_12 a0_13 a0_14 a0_15 a1 false _ A14.out).mono ?_);rintro e w28 ⟨rfl,hb⟩;refine ⟨_,rfl,?_⟩;have n0_:=zM (zB (g:=z02) (o:=.cells #[.int .i64 a0_0,.int .i64 a0_1,.int .u8 a0_2,.int .u16 a0_3,.int .u16 a0_4,.int .i64 a0_5,.int .i64 a0_6,.int .i64 a0_7,.int .i64 a0_8,.int .i64 a0_9,.int .i64 a0_10,.int .i64 a0_11,.int .i64 a0_12,.int .i64 a0_13,.int .i64 a0_14,.bool a0_15] 25 (0,0)) (by (with_reducible repeat first|apply zN|apply zD|apply zA);exact z00.out) hb);have n1_:=zM (yT (by repeat first|(with_reducible first|exact HB.out|apply yA|apply yN|apply yD|refine yS ?_ z01.out)|exact HB.out) hb);clear z00;clear HB;have z00:=n0_;have HB:=n1_;clear n0_ n1_;(try clear hb);(try clear hb2);(try clear hk);(try clear hi)))
    go_ret2
    exact ⟨by first|rfl|(simp [errW_none,errW_some] <;> rfl)|(simp [*,errW_none,errW_some] <;> rfl),by repeat first|(with_reducible first|exact HB.out|apply yA|apply yN|apply yD|refine yS ?_ z01.out)|exact HB.out⟩

end Go.Proofs.Ytapicoienpbdfaa.PPlanTells
