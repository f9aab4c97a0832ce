-- Written by a program of this work, after the translation.
import Derived.Test.YtapicoienpbdfaaPWatchPlaysx0
import Derived.Test.YtapicoienpbdfaaPWatchPlaysx2
import Derived.Test.YtapicoienpbdfaaPWatchPlaysx6
namespace Go.Proofs.Ytapicoienpbdfaa.PWatchPlays
open Go.RowKit Go.Proofs.YtapicoienpbdfaaW.PrintWords Go.Proofs.YtapicoienpbdfaaW.PrintLast Go.Proofs.YtapicoienpbdfaaW.PrintMore
attribute [local go_sem] max2_int min2_int max_two min_two max_three min_three max_four min_four   -- for this text's walks alone
set_option linter.unusedVariables false
set_option linter.unusedSimpArgs false

/-! ### carouselref09_says: function 40 -/
def carouselref09_says.f (k : Nat) (a0_0 : Int) (a0_1 : Int) (a0_2 : Int) (a0_3 : ByteArray) (a0_4 : Int) (a0_5 : Int) (a0_6 : Int) (a0_7 : Int) (a0_8 : Bool) (a0_9 : Bool) : Option (ByteArray × Int) := (carouselref06_Close.f k a0_8 a0_2 ((Int.tmod a0_7 4294967296) % 4294967296) a0_1 a0_3 a0_0).bind fun bt229 => (some (bt229.1, bt229.2))
theorem carouselref09_says.mono : ∀ a0 a1 a2 a3 a4 a5 a6 a7 a8 a9 k, LeO (carouselref09_says.f k a0 a1 a2 a3 a4 a5 a6 a7 a8 a9) (carouselref09_says.f (k + 1) a0 a1 a2 a3 a4 a5 a6 a7 a8 a9) := by
 intro a0 a1 a2 a3 a4 a5 a6 a7 a8 a9 k;unfold carouselref09_says.f
 repeat' first
  | (with_reducible exact carouselref06_Close.mono _ _ _ _ _ _ _)
  | (with_reducible exact LeO.refl _)
  | (with_reducible exact LeO.none _)
  | (with_reducible refine LeO.ite ?_ ?_)
  | (with_reducible refine LeO.bind ?_ (fun _ => ?_))
  | exact carouselref06_Close.mono _ _ _ _ _ _ _
  | exact LeO.none _
  | refine LeO.ite ?_ ?_
  | refine LeO.bind ?_ (fun _ => ?_)
set_option maxHeartbeats 8000000 in
set_option maxRecDepth 100000 in
theorem carouselref09_says.calls (k : Nat) (a0_0 : Int) (a0_1 : Int) (a0_2 : Int) (a0_3 : ByteArray) (a0_4 : Int) (a0_5 : Int) (a0_6 : Int) (a0_7 : Int) (a0_8 : Bool) (a0_9 : Bool) (r1 : ByteArray) (r2 : Int) (w : World) (h : carouselref09_says.f k a0_0 a0_1 a0_2 a0_3 a0_4 a0_5 a0_6 a0_7 a0_8 a0_9 = some (r1, r2)) :
  Calls Try.prog 40 #[.agg #[.int .u8 a0_0, .int .u16 a0_1, .int .u8 a0_2, .string a0_3, .int .i64 a0_4, .int .i64 a0_5, .int .i64 a0_6, .int .u64 a0_7, .bool a0_8, .bool a0_9]] w fun e w' => e = .returned (.tuple #[.string r1, .int .i64 r2]) ∧ Below w.heap.size w w' := by
 have hu47:=Try.underlying47;have hu79:=Try.underlying79;have HB:=zM (Below.refl w.heap.size w);have H : ((carouselref06_Close.f k a0_8 a0_2 ((Int.tmod a0_7 4294967296) % 4294967296) a0_1 a0_3 a0_0).bind fun bt229 => (some (bt229.1,bt229.2))) = some (r1,r2):=h;clear h;replace H:=Option.bind_eq_some_iff.mp H;obtain ⟨⟨z03,z04⟩,A20,H⟩:=H;replace H : (some (z03,z04)) = some (r1,r2):=H;have A2:=zM A20;clear A20;simp only [Option.some.injEq,Prod.mk.injEq] at H;obtain ⟨rfl,rfl⟩:=H;go_enter Try.func40,Try.ntmps40
 go_wp2_with (first|((with_reducible refine gate_dst (N:=1) rfl ?_);refine box_event ?hg (N:=1) ?hd (cs:=#[.int .u8 a0_0,.int .u16 a0_1,.int .u8 a0_2,.string a0_3,.int .i64 a0_4,.int .i64 a0_5,.int .i64 a0_6,.int .u64 a0_7,.bool a0_8,.bool a0_9]) (t:=47) ?hr ?_;(case hd => rfl);(case hg => rfl);(case hr => first|(go_simp;done)|(go_simp;rfl));intro z01 hg w3 hbox hb;have n0_:=zM (yT (by repeat first|(with_reducible first|exact HB.out|apply yA|apply yN|apply yD)|exact HB.out) hb);have n1_:=zM (hbox);have n2_:=zM ((by rw [hg];exact (yZ (by repeat first|(with_reducible first|exact HB.out|apply yA|apply yN|apply yD)|exact HB.out)) : w.heap.size ≤ z01));have n3_:=zM ((by rw [hg];exact (yZ (by repeat first|(with_reducible first|exact HB.out|apply yA|apply yN|apply yD)|exact HB.out)) : w.heap.size ≤ z01));clear HB;have HB:=n0_;have z00:=n1_;have z0p:=n2_;have z02:=n3_;clear n0_ n1_ n2_ n3_;clear hb hbox hg;obtain ⟨z05,z06,z07,z08,z09,z0a,z0b,z0c,z0d,z0e,z0f,z0g,z0h,z0i,z0j,z0k,z0l,z0m,z0n,z0o⟩:=kc10 z00.out)|((with_reducible refine gate_callee (f:=57) rfl ?_);refine goesL_ (some 19) rfl rfl Try.func57 (by kernel_rfl) rfl #[.agg #[.bool a0_8,.int .u8 a0_2,.int .u32 ((Int.tmod a0_7 4294967296) % 4294967296),.int .u16 a0_1,.string a0_3],.int .u8 a0_0] rfl (by (try simp only [List.map_toArray,List.map_cons,List.map_nil]);first|done|rfl|(simp only [List.length_drop,List.length_take];rfl)) ?_;(with_reducible refine (carouselref06_Close.calls k a0_8 a0_2 ((Int.tmod a0_7 4294967296) % 4294967296) a0_1 a0_3 a0_0 z03 z04 _ A2.out).mono ?_);rintro e w5 ⟨rfl,hb⟩;refine ⟨_,rfl,?_⟩;have n0_:=zM (zB (g:=z01) (o:=.cells #[.int .u8 a0_0,.int .u16 a0_1,.int .u8 a0_2,.string a0_3,.int .i64 a0_4,.int .i64 a0_5,.int .i64 a0_6,.int .u64 a0_7,.bool a0_8,.bool a0_9] 47 (0,0)) (by (with_reducible repeat first|apply zN|apply zD|apply zA);exact z00.out) hb);have n1_:=zM (yT (by repeat first|(with_reducible first|exact HB.out|apply yA|apply yN|apply yD|refine yS ?_ z02.out)|exact HB.out) hb);clear z00;clear HB;have z00:=n0_;have HB:=n1_;clear n0_ n1_;(try clear hb);(try clear hb2);(try clear hk);(try clear hi)))
 go_ret2
 exact ⟨by first|rfl|(simp [errW_none,errW_some] <;> rfl)|(simp [*,errW_none,errW_some] <;> rfl),by repeat first|(with_reducible first|exact HB.out|apply yA|apply yN|apply yD|refine yS ?_ z02.out)|exact HB.out⟩

/-! ### carouselref09_New: function 23 -/
def carouselref09_New.j0 : Nat → Int → Bool → Int → Int → Int → ByteArray → Int → Int → Int → Int → Bool → Bool → Option (Int × Int × Int × ByteArray × Int × Int × Int × Int × Bool × Bool × Int)
  | 0, _, _, _, _, _, _, _, _, _, _, _, _ => none
  | k + 1, x1, x32, x232000, x232001, x232002, x232003, x232004, x232005, x232006, x232007, x232008, x232009 => if x32 = true then (some (0, 0, 0, (⟨#[]⟩ : ByteArray), 0, 0, 0, 0, false, false, 4)) else (some (x232000, x232001, x232002, x232003, x232004, x1, x1, x232007, x232008, x232009, 0))
def carouselref09_New.f (k : Nat) (a0_0 : Int) (a0_1 : Int) (a0_2 : Int) (a0_3 : ByteArray) (a0_4 : Int) (a0_5 : Int) (a0_6 : Int) (a0_7 : Int) (a0_8 : Bool) (a0_9 : Bool) (a1 : Int) : Option (Int × Int × Int × ByteArray × Int × Int × Int × Int × Bool × Bool × Int) := (carouselref09_says.f k a0_0 a0_1 a0_2 a0_3 a0_4 a0_5 a0_6 a0_7 a0_8 a0_9).bind fun bt233 => (if bt233.2 = 0 then (if a0_4 < 1 then (carouselref09_New.j0 k a1 true a0_0 a0_1 a0_2 a0_3 a0_4 a0_5 a0_6 a0_7 a0_8 a0_9) else (if a0_4 > 1048576 then (carouselref09_New.j0 k a1 true a0_0 a0_1 a0_2 a0_3 a0_4 a0_5 a0_6 a0_7 a0_8 a0_9) else (if a1 < 0 then (carouselref09_New.j0 k a1 true a0_0 a0_1 a0_2 a0_3 a0_4 a0_5 a0_6 a0_7 a0_8 a0_9) else (carouselref09_New.j0 k a1 (decide (a1 > 1099511627776)) a0_0 a0_1 a0_2 a0_3 a0_4 a0_5 a0_6 a0_7 a0_8 a0_9)))) else (some (0, 0, 0, (⟨#[]⟩ : ByteArray), 0, 0, 0, 0, false, false, bt233.2)))
theorem carouselref09_New.mono_l : ∀ k, (∀ y0 y1 y2 y3 y4 y5 y6 y7 y8 y9 y10 y11, LeO (carouselref09_New.j0 k y0 y1 y2 y3 y4 y5 y6 y7 y8 y9 y10 y11) (carouselref09_New.j0 (k + 1) y0 y1 y2 y3 y4 y5 y6 y7 y8 y9 y10 y11))
 | 0 => fun _ _ _ _ _ _ _ _ _ _ _ _ r h => by simp [carouselref09_New.j0] at h
 | k + 1 => by
  have ih0 := carouselref09_New.mono_l k
  intro y0 y1 y2 y3 y4 y5 y6 y7 y8 y9 y10 y11
  unfold carouselref09_New.j0
  repeat' first
  | (with_reducible exact ih0 _ _ _ _ _ _ _ _ _ _ _ _)
  | (with_reducible exact carouselref09_says.mono _ _ _ _ _ _ _ _ _ _ _)
  | (with_reducible exact LeO.refl _)
  | (with_reducible exact LeO.none _)
  | (with_reducible refine LeO.ite ?_ ?_)
  | (with_reducible refine LeO.bind ?_ (fun _ => ?_))
  | exact ih0 _ _ _ _ _ _ _ _ _ _ _ _
  | exact carouselref09_says.mono _ _ _ _ _ _ _ _ _ _ _
  | exact LeO.none _
  | refine LeO.ite ?_ ?_
  | refine LeO.bind ?_ (fun _ => ?_)
theorem carouselref09_New.mono : ∀ a0 a1 a2 a3 a4 a5 a6 a7 a8 a9 a10 k, LeO (carouselref09_New.f k a0 a1 a2 a3 a4 a5 a6 a7 a8 a9 a10) (carouselref09_New.f (k + 1) a0 a1 a2 a3 a4 a5 a6 a7 a8 a9 a10) := by
 intro a0 a1 a2 a3 a4 a5 a6 a7 a8 a9 a10 k;have ih0:=carouselref09_New.mono_l k;unfold carouselref09_New.f
 repeat' first
  | (with_reducible exact ih0 _ _ _ _ _ _ _ _ _ _ _ _)
  | (with_reducible exact carouselref09_says.mono _ _ _ _ _ _ _ _ _ _ _)
  | (with_reducible exact LeO.refl _)
  | (with_reducible exact LeO.none _)
  | (with_reducible refine LeO.ite ?_ ?_)
  | (with_reducible refine LeO.bind ?_ (fun _ => ?_))
  | exact ih0 _ _ _ _ _ _ _ _ _ _ _ _
  | exact carouselref09_says.mono _ _ _ _ _ _ _ _ _ _ _
  | exact LeO.none _
  | refine LeO.ite ?_ ?_
  | refine LeO.bind ?_ (fun _ => ?_)
set_option maxHeartbeats 8000000 in
set_option maxRecDepth 100000 in
theorem carouselref09_New.calls (k : Nat) (a0_0 : Int) (a0_1 : Int) (a0_2 : Int) (a0_3 : ByteArray) (a0_4 : Int) (a0_5 : Int) (a0_6 : Int) (a0_7 : Int) (a0_8 : Bool) (a0_9 : Bool) (a1 : Int) (r1 : Int) (r2 : Int) (r3 : Int) (r4 : ByteArray) (r5 : Int) (r6 : Int) (r7 : Int) (r8 : Int) (r9 : Bool) (r10 : Bool) (r11 : Int) (w : World) (h : carouselref09_New.f k a0_0 a0_1 a0_2 a0_3 a0_4 a0_5 a0_6 a0_7 a0_8 a0_9 a1 = some (r1, r2, r3, r4, r5, r6, r7, r8, r9, r10, r11)) :
  Calls Try.prog 23 #[.agg #[.int .u8 a0_0, .int .u16 a0_1, .int .u8 a0_2, .string a0_3, .int .i64 a0_4, .int .i64 a0_5, .int .i64 a0_6, .int .u64 a0_7, .bool a0_8, .bool a0_9], .int .i64 a1] w fun e w' => e = .returned (.tuple #[.agg #[.int .u8 r1, .int .u16 r2, .int .u8 r3, .string r4, .int .i64 r5, .int .i64 r6, .int .i64 r7, .int .u64 r8, .bool r9, .bool r10], .int .i64 r11]) ∧ Below w.heap.size w w' := by
 have hu47:=Try.underlying47;have HB:=zM (Below.refl w.heap.size w);have H : ((carouselref09_says.f k a0_0 a0_1 a0_2 a0_3 a0_4 a0_5 a0_6 a0_7 a0_8 a0_9).bind fun bt233 => (if bt233.2 = 0 then (if a0_4 < 1 then (carouselref09_New.j0 k a1 true a0_0 a0_1 a0_2 a0_3 a0_4 a0_5 a0_6 a0_7 a0_8 a0_9) else (if a0_4 > 1048576 then (carouselref09_New.j0 k a1 true a0_0 a0_1 a0_2 a0_3 a0_4 a0_5 a0_6 a0_7 a0_8 a0_9) else (if a1 < 0 then (carouselref09_New.j0 k a1 true a0_0 a0_1 a0_2 a0_3 a0_4 a0_5 a0_6 a0_7 a0_8 a0_9) else (carouselref09_New.j0 k a1 (decide (a1 > 1099511627776)) a0_0 a0_1 a0_2 a0_3 a0_4 a0_5 a0_6 a0_7 a0_8 a0_9)))) else (some (0,0,0,(⟨#[]⟩ : ByteArray),0,0,0,0,false,false,bt233.2)))) = some (r1,r2,r3,r4,r5,r6,r7,r8,r9,r10,r11):=h;clear h;replace H:=Option.bind_eq_some_iff.mp H;obtain ⟨⟨z5v,z08⟩,A30,H⟩:=H;try dsimp only at H
 have A3:=zM A30;clear A30;by_cases c4 : z08 = 0
 ·
  rw [if_pos c4] at H;have c4b0 : (z08 == 0) = true:=beq_iff_eq.mpr c4;have c4b1 : (z08 != 0) = false:=bne_eq_false_iff_eq.mpr c4;clear c4;have HC5:=zM H;clear H;go_enter Try.func23,Try.ntmps23
  go_upto_region 4 with (first|((with_reducible refine gate_dst (N:=2) rfl ?_);refine box_event ?hg (N:=2) ?hd (cs:=#[.int .u8 a0_0,.int .u16 a0_1,.int .u8 a0_2,.string a0_3,.int .i64 a0_4,.int .i64 a0_5,.int .i64 a0_6,.int .u64 a0_7,.bool a0_8,.bool a0_9]) (t:=47) ?hr ?_;(case hd => rfl);(case hg => rfl);(case hr => first|(go_simp;done)|(go_simp;rfl));intro z03 hg w6 hbox hb;have n0_:=zM (yT (by repeat first|(with_reducible first|exact HB.out|apply yA|apply yN|apply yD)|exact HB.out) hb);have n1_:=zM (hbox);have n2_:=zM ((by rw [hg];exact (yZ (by repeat first|(with_reducible first|exact HB.out|apply yA|apply yN|apply yD)|exact HB.out)) : w.heap.size ≤ z03));have n3_:=zM ((by rw [hg];exact (yZ (by repeat first|(with_reducible first|exact HB.out|apply yA|apply yN|apply yD)|exact HB.out)) : w.heap.size ≤ z03));clear HB;have HB:=n0_;have z01:=n1_;have z31:=n2_;have z05:=n3_;clear n0_ n1_ n2_ n3_;clear hb hbox hg)|((with_reducible refine gate_dst (N:=4) rfl ?_);refine box_event ?hg (N:=4) ?hd (cs:=#[.int .u8 0,.int .u16 0,.int .u8 0,.string (⟨#[]⟩ : ByteArray),.int .i64 0,.int .i64 0,.int .i64 0,.int .u64 0,.bool false,.bool false]) (t:=47) ?hr ?_;(case hd => rfl);(case hg => rfl);(case hr => first|(go_simp;done)|(go_simp;rfl));intro z06 hg w7 hbox hb;have n0_:=zM (zB (g:=z03) (o:=.cells #[.int .u8 a0_0,.int .u16 a0_1,.int .u8 a0_2,.string a0_3,.int .i64 a0_4,.int .i64 a0_5,.int .i64 a0_6,.int .u64 a0_7,.bool a0_8,.bool a0_9] 47 (0,0)) (by (with_reducible repeat first|apply zN|apply zD|apply zA);exact z01.out) hb);have n1_:=zM (yT (by repeat first|(with_reducible first|exact HB.out|apply yA|apply yN|apply yD|refine yS ?_ z05.out)|exact HB.out) hb);have n2_:=zM (hbox);have n3_:=zM ((by rw [hg];exact (yZ (by repeat first|(with_reducible first|exact HB.out|apply yA|apply yN|apply yD|refine yS ?_ z05.out)|exact HB.out)) : w.heap.size ≤ z06));have n4_:=zM ((by rw [hg];exact (yZ (by repeat first|(with_reducible first|exact HB.out|apply yA|apply yN|apply yD|refine yS ?_ z05.out)|exact HB.out)) : w.heap.size ≤ z06));have n5_:=zM ((by rw [hg];exact Nat.ne_of_lt (blk_lt (g:=z03) (o:=.cells #[.int .u8 a0_0,.int .u16 a0_1,.int .u8 a0_2,.string a0_3,.int .i64 a0_4,.int .i64 a0_5,.int .i64 a0_6,.int .u64 a0_7,.bool a0_8,.bool a0_9] 47 (0,0)) (by (with_reducible repeat first|apply zN|apply zD|apply zA);exact z01.out)) : z03 ≠ z06));have n6_:=zM ((by rw [hg];exact Nat.ne_of_gt (blk_lt (g:=z03) (o:=.cells #[.int .u8 a0_0,.int .u16 a0_1,.int .u8 a0_2,.string a0_3,.int .i64 a0_4,.int .i64 a0_5,.int .i64 a0_6,.int .u64 a0_7,.bool a0_8,.bool a0_9] 47 (0,0)) (by (with_reducible repeat first|apply zN|apply zD|apply zA);exact z01.out)) : z06 ≠ z03));clear z01;clear HB;have z01:=n0_;have HB:=n1_;have z04:=n2_;have z32:=n3_;have z07:=n4_;have z02:=n5_;have z00:=n6_;clear n0_ n1_ n2_ n3_ n4_ n5_ n6_;clear hb hbox hg;have z6a:=z02.out;have z6b:=z00.out;obtain ⟨z2h,z2i,z2j,z2k,z2l,z2m,z2n,z2o,z2p,z2q,z2r,z2s,z2t,z2u,z2v,z2w,z2x,z2y,z2z,z30⟩:=kc10 z01.out)|((with_reducible refine gate_callee (f:=40) rfl ?_);refine goesL_ (some 10) rfl rfl Try.func40 (by kernel_rfl) rfl #[.agg #[.int .u8 a0_0,.int .u16 a0_1,.int .u8 a0_2,.string a0_3,.int .i64 a0_4,.int .i64 a0_5,.int .i64 a0_6,.int .u64 a0_7,.bool a0_8,.bool a0_9]] rfl (by (try simp only [List.map_toArray,List.map_cons,List.map_nil]);first|done|rfl|(simp only [List.length_drop,List.length_take];rfl)) ?_;(with_reducible refine (carouselref09_says.calls k a0_0 a0_1 a0_2 a0_3 a0_4 a0_5 a0_6 a0_7 a0_8 a0_9 z5v z08 _ A3.out).mono ?_);rintro e w10 ⟨rfl,hb⟩;refine ⟨_,rfl,?_⟩;have n0_:=zM (zB (g:=z03) (o:=.cells #[.int .u8 a0_0,.int .u16 a0_1,.int .u8 a0_2,.string a0_3,.int .i64 a0_4,.int .i64 a0_5,.int .i64 a0_6,.int .u64 a0_7,.bool a0_8,.bool a0_9] 47 (0,0)) (by (with_reducible repeat first|apply zN|apply zD|apply zA);exact z01.out) hb);have n1_:=zM (zB (g:=z06) (o:=.cells #[.int .u8 0,.int .u16 0,.int .u8 0,.string (⟨#[]⟩ : ByteArray),.int .i64 0,.int .i64 0,.int .i64 0,.int .u64 0,.bool false,.bool false] 47 (0,0)) (by (with_reducible repeat first|apply zN|apply zD|apply zA);exact z04.out) hb);have n2_:=zM (yT (by repeat (first|(with_reducible first|exact HB.out|apply yA|apply yN|apply yD|refine yS ?_ z05.out|refine yS ?_ z07.out)|exact HB.out)) hb);clear z01;clear z04;clear HB;have z01:=n0_;have z04:=n1_;have HB:=n2_;clear n0_ n1_ n2_;(try clear hb);(try clear hb2);(try clear hk);(try clear hi)))
  (try simp only [Act.put,sA,sB,sC])
  go_cut [32] (fun v32 wc => ∃ (kq : Nat) (x32_4 : Bool),v32 = .bool x32_4 ∧ Aside0 (carouselref09_New.j0 kq a1 x32_4 a0_0 a0_1 a0_2 a0_3 a0_4 a0_5 a0_6 a0_7 a0_8 a0_9 = some (r1,r2,r3,r4,r5,r6,r7,r8,r9,r10,r11)) ∧ Aside0 (kq ≤ k) ∧ Aside0 (wc.heap[z03]? = some (.cells #[.int .u8 a0_0,.int .u16 a0_1,.int .u8 a0_2,.string a0_3,.int .i64 a0_4,.int .i64 a0_5,.int .i64 a0_6,.int .u64 a0_7,.bool a0_8,.bool a0_9] 47 (0,0))) ∧ Aside0 (wc.heap[z06]? = some (.cells #[.int .u8 0,.int .u16 0,.int .u8 0,.string (⟨#[]⟩ : ByteArray),.int .i64 0,.int .i64 0,.int .i64 0,.int .u64 0,.bool false,.bool false] 47 (0,0))) ∧ Aside0 (Below w.heap.size w wc))
  case first =>
   have H:=HC5.out;clear HC5;by_cases c11 : a0_4 < 1
   ·
    rw [if_pos c11] at H;have c11b0 : decide (a0_4 < 1) = true:=dT c11;clear c11;(first|rw [c11b0]|(simp only [i64_w,i32_w];rw [c11b0])|skip)
    have H':=zM H;clear H;have z5w:=z02.out;have z5x:=z00.out;obtain ⟨z09,z0a,z0b,z0c,z0d,z0e,z0f,z0g,z0h,z0i,z0j,z0k,z0l,z0m,z0n,z0o,z0p,z0q,z0r,z0s⟩:=kc10 z01.out;go_wp2;go_meet
    case rel => exact ⟨_,(true),(by first|rfl|(simp;done)|(simp [*];done)),H',⟨by first|omega|exact Nat.le_refl _⟩,⟨by (with_reducible repeat first|apply zN|apply zD|apply zA);exact z01.out⟩,⟨by (with_reducible repeat first|apply zN|apply zD|apply zA);exact z04.out⟩,⟨by repeat (first|(with_reducible first|exact HB.out|apply yA|apply yN|apply yD|refine yS ?_ z05.out|refine yS ?_ z07.out)|exact HB.out)⟩⟩
   rw [if_neg c11] at H;have c11b0 : decide (a0_4 < 1) = false:=dF c11;clear c11;(first|rw [c11b0]|(simp only [i64_w,i32_w];rw [c11b0])|skip)
   by_cases c14 : a0_4 > 1048576
   ·
    rw [if_pos c14] at H;have c14b0 : decide (1048576 < a0_4) = true:=dT c14;clear c14;have H':=zM H;clear H;have z5y:=z02.out;have z5z:=z00.out;obtain ⟨z0t,z0u,z0v,z0w,z0x,z0y,z0z,z10,z11,z12,z13,z14,z15,z16,z17,z18,z19,z1a,z1b,z1c⟩:=kc10 z01.out;go_wp2;go_meet
    case rel => exact ⟨_,(true),(by first|rfl|(simp;done)|(simp [*];done)),H',⟨by first|omega|exact Nat.le_refl _⟩,⟨by (with_reducible repeat first|apply zN|apply zD|apply zA);exact z01.out⟩,⟨by (with_reducible repeat first|apply zN|apply zD|apply zA);exact z04.out⟩,⟨by repeat (first|(with_reducible first|exact HB.out|apply yA|apply yN|apply yD|refine yS ?_ z05.out|refine yS ?_ z07.out)|exact HB.out)⟩⟩
   rw [if_neg c14] at H;have c14b0 : decide (1048576 < a0_4) = false:=dF c14;clear c14;by_cases c17 : a1 < 0
   ·
    rw [if_pos c17] at H;have c17b0 : decide (a1 < 0) = true:=dT c17;clear c17;have H':=zM H;clear H;have z60:=z02.out;have z61:=z00.out;obtain ⟨z1d,z1e,z1f,z1g,z1h,z1i,z1j,z1k,z1l,z1m,z1n,z1o,z1p,z1q,z1r,z1s,z1t,z1u,z1v,z1w⟩:=kc10 z01.out;go_wp2;go_meet
    case rel => exact ⟨_,(true),(by first|rfl|(simp;done)|(simp [*];done)),H',⟨by first|omega|exact Nat.le_refl _⟩,⟨by (with_reducible repeat first|apply zN|apply zD|apply zA);exact z01.out⟩,⟨by (with_reducible repeat first|apply zN|apply zD|apply zA);exact z04.out⟩,⟨by repeat (first|(with_reducible first|exact HB.out|apply yA|apply yN|apply yD|refine yS ?_ z05.out|refine yS ?_ z07.out)|exact HB.out)⟩⟩
   rw [if_neg c17] at H;have c17b0 : decide (a1 < 0) = false:=dF c17;clear c17;have H':=zM H;clear H;have z62:=z02.out;have z63:=z00.out;obtain ⟨z1x,z1y,z1z,z20,z21,z22,z23,z24,z25,z26,z27,z28,z29,z2a,z2b,z2c,z2d,z2e,z2f,z2g⟩:=kc10 z01.out;go_wp2;go_meet
   case rel => exact ⟨_,(decide (a1 > 1099511627776)),(by first|rfl|(simp;done)|(simp [*];done)),H',⟨by first|omega|exact Nat.le_refl _⟩,⟨by (with_reducible repeat first|apply zN|apply zD|apply zA);exact z01.out⟩,⟨by (with_reducible repeat first|apply zN|apply zD|apply zA);exact z04.out⟩,⟨by repeat (first|(with_reducible first|exact HB.out|apply yA|apply yN|apply yD|refine yS ?_ z05.out|refine yS ?_ z07.out)|exact HB.out)⟩⟩
  case rest =>
   clear HC5;try clear c1
   try clear c2
   try clear p2
   try clear c4
   try clear c4b0
   try clear c4b1
   try clear c8
   try clear c11
   try clear c11b0
   try clear c12
   try clear c14
   try clear c14b0
   try clear c15
   try clear c17
   try clear c17b0
   try clear c18
   try clear c20
   try clear z09
   try clear z0a
   try clear z0b
   try clear z0c
   try clear z0d
   try clear z0e
   try clear z0f
   try clear z0g
   try clear z0h
   try clear z0i
   try clear z0t
   try clear z0u
   try clear z0v
   try clear z0w
   try clear z0x
   try clear z0y
   try clear z0z
   try clear z10
   try clear z11
   try clear z12
   try clear z1d
   try clear z1e
   try clear z1f
   try clear z1g
   try clear z1h
   try clear z1i
   try clear z1j
   try clear z1k
   try clear z1l
   try clear z1m
   try clear z1x
   try clear z1y
   try clear z1z
   try clear z20
   try clear z21
   try clear z22
   try clear z23
   try clear z24
   try clear z25
   try clear z26
   try clear z2h
   try clear z2i
   try clear z2j
   try clear z2k
   try clear z2l
   try clear z2m
   try clear z2n
   try clear z2o
   try clear z2p
   try clear z2q
   try clear z0j
   try clear z0k
   try clear z0l
   try clear z0m
   try clear z0n
   try clear z0o
   try clear z0p
   try clear z0q
   try clear z0r
   try clear z0s
   try clear z13
   try clear z14
   try clear z15
   try clear z16
   try clear z17
   try clear z18
   try clear z19
   try clear z1a
   try clear z1b
   try clear z1c
   try clear z1n
   try clear z1o
   try clear z1p
   try clear z1q
   try clear z1r
   try clear z1s
   try clear z1t
   try clear z1u
   try clear z1v
   try clear z1w
   try clear z27
   try clear z28
   try clear z29
   try clear z2a
   try clear z2b
   try clear z2c
   try clear z2d
   try clear z2e
   try clear z2f
   try clear z2g
   try clear z2r
   try clear z2s
   try clear z2t
   try clear z2u
   try clear z2v
   try clear z2w
   try clear z2x
   try clear z2y
   try clear z2z
   try clear z30
   obtain ⟨kq,x32_4,rfl,HA,HJ4,z01,z04,HB⟩:=hcut;cases kq with
  | zero => exact absurd HA.out (by simp [carouselref09_New.j0])
  | succ kj4 =>
    have H:=HA.out;clear HA;simp only [carouselref09_New.j0] at H;by_cases c22 : x32_4 = true
    ·
     subst c22;have H1 : (some (0,0,0,(⟨#[]⟩ : ByteArray),0,0,0,0,false,false,4)) = some (r1,r2,r3,r4,r5,r6,r7,r8,r9,r10,r11):=by rw [if_pos rfl] at H;exact H
     clear H;have H:=H1;clear H1;simp only [Option.some.injEq,Prod.mk.injEq] at H;obtain ⟨rfl,rfl,rfl,rfl,rfl,rfl,rfl,rfl,rfl,rfl,rfl⟩:=H;have z64:=z00.out;have z65:=z02.out;obtain ⟨z33,z34,z35,z36,z37,z38,z39,z3a,z3b,z3c,z3d,z3e,z3f,z3g,z3h,z3i,z3j,z3k,z3l,z3m⟩:=kc10 z04.out;go_wp2;refine zE (results_ct rfl _ _ z06 47 #[.int .u8 0,.int .u16 0,.int .u8 0,.string (⟨#[]⟩ : ByteArray),.int .i64 0,.int .i64 0,.int .i64 0,.int .u64 0,.bool false,.bool false] (0,0) _ rfl (by (with_reducible repeat first|apply zN|apply zD|apply zA);refine zP (cs:=#[.int .u8 0,.int .u16 0,.int .u8 0,.string (⟨#[]⟩ : ByteArray),.int .i64 0,.int .i64 0,.int .i64 0,.int .u64 0,.bool false,.bool false]) ?_ 9 _ rfl;(with_reducible repeat first|apply zN|apply zD|apply zA);refine zP (cs:=#[.int .u8 0,.int .u16 0,.int .u8 0,.string (⟨#[]⟩ : ByteArray),.int .i64 0,.int .i64 0,.int .i64 0,.int .u64 0,.bool false,.bool false]) ?_ 8 _ rfl;(with_reducible repeat first|apply zN|apply zD|apply zA);refine zP (cs:=#[.int .u8 0,.int .u16 0,.int .u8 0,.string (⟨#[]⟩ : ByteArray),.int .i64 0,.int .i64 0,.int .i64 0,.int .u64 0,.bool false,.bool false]) ?_ 7 _ rfl;(with_reducible repeat first|apply zN|apply zD|apply zA);refine zP (cs:=#[.int .u8 0,.int .u16 0,.int .u8 0,.string (⟨#[]⟩ : ByteArray),.int .i64 0,.int .i64 0,.int .i64 0,.int .u64 0,.bool false,.bool false]) ?_ 6 _ rfl;(with_reducible repeat first|apply zN|apply zD|apply zA);refine zP (cs:=#[.int .u8 0,.int .u16 0,.int .u8 0,.string (⟨#[]⟩ : ByteArray),.int .i64 0,.int .i64 0,.int .i64 0,.int .u64 0,.bool false,.bool false]) ?_ 5 _ rfl;(with_reducible repeat first|apply zN|apply zD|apply zA);refine zP (cs:=#[.int .u8 0,.int .u16 0,.int .u8 0,.string (⟨#[]⟩ : ByteArray),.int .i64 0,.int .i64 0,.int .i64 0,.int .u64 0,.bool false,.bool false]) ?_ 4 _ rfl;(with_reducible repeat first|apply zN|apply zD|apply zA);refine zP (cs:=#[.int .u8 0,.int .u16 0,.int .u8 0,.string (⟨#[]⟩ : ByteArray),.int .i64 0,.int .i64 0,.int .i64 0,.int .u64 0,.bool false,.bool false]) ?_ 3 _ rfl;(with_reducible repeat first|apply zN|apply zD|apply zA);refine zP (cs:=#[.int .u8 0,.int .u16 0,.int .u8 0,.string (⟨#[]⟩ : ByteArray),.int .i64 0,.int .i64 0,.int .i64 0,.int .u64 0,.bool false,.bool false]) ?_ 2 _ rfl;(with_reducible repeat first|apply zN|apply zD|apply zA);refine zP (cs:=#[.int .u8 0,.int .u16 0,.int .u8 0,.string (⟨#[]⟩ : ByteArray),.int .i64 0,.int .i64 0,.int .i64 0,.int .u64 0,.bool false,.bool false]) ?_ 1 _ rfl;(with_reducible repeat first|apply zN|apply zD|apply zA);refine zP (cs:=#[.int .u8 0,.int .u16 0,.int .u8 0,.string (⟨#[]⟩ : ByteArray),.int .i64 0,.int .i64 0,.int .i64 0,.int .u64 0,.bool false,.bool false]) ?_ 0 _ rfl;(with_reducible repeat first|apply zN|apply zD|apply zA);exact z04.out) Try.underlying47 rfl (by kernel_rfl)) rfl ?_;exact ⟨by first|rfl|(simp [errW_none,errW_some] <;> rfl)|(simp [*,errW_none,errW_some] <;> rfl),by repeat (first|(with_reducible first|exact HB.out|apply yA|apply yN|apply yD|refine yS ?_ z05.out|refine yS ?_ z07.out)|exact HB.out)⟩
    replace c22:=Bool.eq_false_iff.mpr c22;subst c22;have H1 : (some (a0_0,a0_1,a0_2,a0_3,a0_4,a1,a1,a0_7,a0_8,a0_9,0)) = some (r1,r2,r3,r4,r5,r6,r7,r8,r9,r10,r11):=by rw [if_neg (show ¬ (false = true) by decide)] at H;exact H
    clear H;have H:=H1;clear H1;simp only [Option.some.injEq,Prod.mk.injEq] at H;obtain ⟨rfl,rfl,rfl,rfl,rfl,rfl,rfl,rfl,rfl,rfl,rfl⟩:=H;have z66:=z02.out;have z67:=z00.out;obtain ⟨z3n,z3o,z3p,z3q,z3r,z3s,z3t,z3u,z3v,z3w,z3x,z3y,z3z,z40,z41,z42,z43,z44,z45,z46⟩:=kc10 z01.out;obtain ⟨z47,z48,z49,z4a,z4b,z4c,z4d,z4e,z4f,z4g,z4h,z4i,z4j,z4k,z4l,z4m,z4n,z4o,z4p,z4q⟩:=kc10 z04.out;go_wp2;refine zE (results_ct rfl _ _ z06 47 #[.int .u8 a0_0,.int .u16 a0_1,.int .u8 a0_2,.string a0_3,.int .i64 a0_4,.int .i64 a1,.int .i64 a1,.int .u64 a0_7,.bool a0_8,.bool a0_9] (0,0) _ rfl (by (with_reducible repeat first|apply zN|apply zD|apply zA);refine zP (cs:=#[.int .u8 a0_0,.int .u16 a0_1,.int .u8 a0_2,.string a0_3,.int .i64 a0_4,.int .i64 a1,.int .i64 a1,.int .u64 a0_7,.bool a0_8,.bool false]) ?_ 9 _ rfl;(with_reducible repeat first|apply zN|apply zD|apply zA);refine zP (cs:=#[.int .u8 a0_0,.int .u16 a0_1,.int .u8 a0_2,.string a0_3,.int .i64 a0_4,.int .i64 a1,.int .i64 a1,.int .u64 a0_7,.bool false,.bool false]) ?_ 8 _ rfl;(with_reducible repeat first|apply zN|apply zD|apply zA);refine zP (cs:=#[.int .u8 a0_0,.int .u16 a0_1,.int .u8 a0_2,.string a0_3,.int .i64 a0_4,.int .i64 a1,.int .i64 a1,.int .u64 0,.bool false,.bool false]) ?_ 7 _ rfl;(with_reducible repeat first|apply zN|apply zD|apply zA);refine zP (cs:=#[.int .u8 a0_0,.int .u16 a0_1,.int .u8 a0_2,.string a0_3,.int .i64 a0_4,.int .i64 a1,.int .i64 0,.int .u64 0,.bool false,.bool false]) ?_ 6 _ rfl;(with_reducible repeat first|apply zN|apply zD|apply zA);refine zP (cs:=#[.int .u8 a0_0,.int .u16 a0_1,.int .u8 a0_2,.string a0_3,.int .i64 a0_4,.int .i64 0,.int .i64 0,.int .u64 0,.bool false,.bool false]) ?_ 5 _ rfl;(with_reducible repeat first|apply zN|apply zD|apply zA);refine zP (cs:=#[.int .u8 a0_0,.int .u16 a0_1,.int .u8 a0_2,.string a0_3,.int .i64 0,.int .i64 0,.int .i64 0,.int .u64 0,.bool false,.bool false]) ?_ 4 _ rfl;(with_reducible repeat first|apply zN|apply zD|apply zA);refine zP (cs:=#[.int .u8 a0_0,.int .u16 a0_1,.int .u8 a0_2,.string (⟨#[]⟩ : ByteArray),.int .i64 0,.int .i64 0,.int .i64 0,.int .u64 0,.bool false,.bool false]) ?_ 3 _ rfl;(with_reducible repeat first|apply zN|apply zD|apply zA);refine zP (cs:=#[.int .u8 a0_0,.int .u16 a0_1,.int .u8 0,.string (⟨#[]⟩ : ByteArray),.int .i64 0,.int .i64 0,.int .i64 0,.int .u64 0,.bool false,.bool false]) ?_ 2 _ rfl;(with_reducible repeat first|apply zN|apply zD|apply zA);refine zP (cs:=#[.int .u8 a0_0,.int .u16 0,.int .u8 0,.string (⟨#[]⟩ : ByteArray),.int .i64 0,.int .i64 0,.int .i64 0,.int .u64 0,.bool false,.bool false]) ?_ 1 _ rfl;(with_reducible repeat first|apply zN|apply zD|apply zA);refine zP (cs:=#[.int .u8 0,.int .u16 0,.int .u8 0,.string (⟨#[]⟩ : ByteArray),.int .i64 0,.int .i64 0,.int .i64 0,.int .u64 0,.bool false,.bool false]) ?_ 0 _ rfl;(with_reducible repeat first|apply zN|apply zD|apply zA);refine zG ?_ z00.out _;(with_reducible repeat first|apply zN|apply zD|apply zA);refine zG ?_ z00.out _;(with_reducible repeat first|apply zN|apply zD|apply zA);exact z04.out) Try.underlying47 rfl (by kernel_rfl)) rfl ?_;exact ⟨by first|rfl|(simp [errW_none,errW_some] <;> rfl)|(simp [*,errW_none,errW_some] <;> rfl),by repeat (first|(with_reducible first|exact HB.out|apply yA|apply yN|apply yD|refine yS ?_ z05.out|refine yS ?_ z07.out)|exact HB.out)⟩
 rw [if_neg c4] at H;have c4b0 : (z08 == 0) = false:=beq_eq_false_iff_ne.mpr c4;have c4b1 : (z08 != 0) = true:=bne_iff_ne.mpr c4;simp only [Option.some.injEq,Prod.mk.injEq] at H;obtain ⟨rfl,rfl,rfl,rfl,rfl,rfl,rfl,rfl,rfl,rfl,rfl⟩:=H;go_enter Try.func23,Try.ntmps23
 go_wp2_with (first|((with_reducible refine gate_dst (N:=2) rfl ?_);refine box_event ?hg (N:=2) ?hd (cs:=#[.int .u8 a0_0,.int .u16 a0_1,.int .u8 a0_2,.string a0_3,.int .i64 a0_4,.int .i64 a0_5,.int .i64 a0_6,.int .u64 a0_7,.bool a0_8,.bool a0_9]) (t:=47) ?hr ?_;(case hd => rfl);(case hg => rfl);(case hr => first|(go_simp;done)|(go_simp;rfl));intro z03 hg w28 hbox hb;have n0_:=zM (yT (by repeat first|(with_reducible first|exact HB.out|apply yA|apply yN|apply yD)|exact HB.out) hb);have n1_:=zM (hbox);have n2_:=zM ((by rw [hg];exact (yZ (by repeat first|(with_reducible first|exact HB.out|apply yA|apply yN|apply yD)|exact HB.out)) : w.heap.size ≤ z03));have n3_:=zM ((by rw [hg];exact (yZ (by repeat first|(with_reducible first|exact HB.out|apply yA|apply yN|apply yD)|exact HB.out)) : w.heap.size ≤ z03));clear HB;have HB:=n0_;have z01:=n1_;have z31:=n2_;have z05:=n3_;clear n0_ n1_ n2_ n3_;clear hb hbox hg)|((with_reducible refine gate_dst (N:=4) rfl ?_);refine box_event ?hg (N:=4) ?hd (cs:=#[.int .u8 0,.int .u16 0,.int .u8 0,.string (⟨#[]⟩ : ByteArray),.int .i64 0,.int .i64 0,.int .i64 0,.int .u64 0,.bool false,.bool false]) (t:=47) ?hr ?_;(case hd => rfl);(case hg => rfl);(case hr => first|(go_simp;done)|(go_simp;rfl));intro z06 hg w29 hbox hb;have n0_:=zM (zB (g:=z03) (o:=.cells #[.int .u8 a0_0,.int .u16 a0_1,.int .u8 a0_2,.string a0_3,.int .i64 a0_4,.int .i64 a0_5,.int .i64 a0_6,.int .u64 a0_7,.bool a0_8,.bool a0_9] 47 (0,0)) (by (with_reducible repeat first|apply zN|apply zD|apply zA);exact z01.out) hb);have n1_:=zM (yT (by repeat first|(with_reducible first|exact HB.out|apply yA|apply yN|apply yD|refine yS ?_ z05.out)|exact HB.out) hb);have n2_:=zM (hbox);have n3_:=zM ((by rw [hg];exact (yZ (by repeat first|(with_reducible first|exact HB.out|apply yA|apply yN|apply yD|refine yS ?_ z05.out)|exact HB.out)) : w.heap.size ≤ z06));have n4_:=zM ((by rw [hg];exact (yZ (by repeat first|(with_reducible first|exact HB.out|apply yA|apply yN|apply yD|refine yS ?_ z05.out)|exact HB.out)) : w.heap.size ≤ z06));have n5_:=zM ((by rw [hg];exact Nat.ne_of_lt (blk_lt (g:=z03) (o:=.cells #[.int .u8 a0_0,.int .u16 a0_1,.int .u8 a0_2,.string a0_3,.int .i64 a0_4,.int .i64 a0_5,.int .i64 a0_6,.int .u64 a0_7,.bool a0_8,.bool a0_9] 47 (0,0)) (by (with_reducible repeat first|apply zN|apply zD|apply zA);exact z01.out)) : z03 ≠ z06));have n6_:=zM ((by rw [hg];exact Nat.ne_of_gt (blk_lt (g:=z03) (o:=.cells #[.int .u8 a0_0,.int .u16 a0_1,.int .u8 a0_2,.string a0_3,.int .i64 a0_4,.int .i64 a0_5,.int .i64 a0_6,.int .u64 a0_7,.bool a0_8,.bool a0_9] 47 (0,0)) (by (with_reducible repeat first|apply zN|apply zD|apply zA);exact z01.out)) : z06 ≠ z03));clear z01;clear HB;have z01:=n0_;have HB:=n1_;have z04:=n2_;have z32:=n3_;have z07:=n4_;have z02:=n5_;have z00:=n6_;clear n0_ n1_ n2_ n3_ n4_ n5_ n6_;clear hb hbox hg;have z68:=z02.out;have z69:=z00.out;obtain ⟨z4r,z4s,z4t,z4u,z4v,z4w,z4x,z4y,z4z,z50,z51,z52,z53,z54,z55,z56,z57,z58,z59,z5a⟩:=kc10 z01.out)|((with_reducible refine gate_callee (f:=40) rfl ?_);refine goesL_ (some 10) rfl rfl Try.func40 (by kernel_rfl) rfl #[.agg #[.int .u8 a0_0,.int .u16 a0_1,.int .u8 a0_2,.string a0_3,.int .i64 a0_4,.int .i64 a0_5,.int .i64 a0_6,.int .u64 a0_7,.bool a0_8,.bool a0_9]] rfl (by (try simp only [List.map_toArray,List.map_cons,List.map_nil]);first|done|rfl|(simp only [List.length_drop,List.length_take];rfl)) ?_;(with_reducible refine (carouselref09_says.calls k a0_0 a0_1 a0_2 a0_3 a0_4 a0_5 a0_6 a0_7 a0_8 a0_9 z5v z08 _ A3.out).mono ?_);rintro e w32 ⟨rfl,hb⟩;refine ⟨_,rfl,?_⟩;have n0_:=zM (zB (g:=z03) (o:=.cells #[.int .u8 a0_0,.int .u16 a0_1,.int .u8 a0_2,.string a0_3,.int .i64 a0_4,.int .i64 a0_5,.int .i64 a0_6,.int .u64 a0_7,.bool a0_8,.bool a0_9] 47 (0,0)) (by (with_reducible repeat first|apply zN|apply zD|apply zA);exact z01.out) hb);have n1_:=zM (zB (g:=z06) (o:=.cells #[.int .u8 0,.int .u16 0,.int .u8 0,.string (⟨#[]⟩ : ByteArray),.int .i64 0,.int .i64 0,.int .i64 0,.int .u64 0,.bool false,.bool false] 47 (0,0)) (by (with_reducible repeat first|apply zN|apply zD|apply zA);exact z04.out) hb);have n2_:=zM (yT (by repeat (first|(with_reducible first|exact HB.out|apply yA|apply yN|apply yD|refine yS ?_ z05.out|refine yS ?_ z07.out)|exact HB.out)) hb);clear z01;clear z04;clear HB;have z01:=n0_;have z04:=n1_;have HB:=n2_;clear n0_ n1_ n2_;(try clear hb);(try clear hb2);(try clear hk);(try clear hi);obtain ⟨z5b,z5c,z5d,z5e,z5f,z5g,z5h,z5i,z5j,z5k,z5l,z5m,z5n,z5o,z5p,z5q,z5r,z5s,z5t,z5u⟩:=kc10 z04.out))
 refine zE (results_ct rfl _ _ z06 47 #[.int .u8 0,.int .u16 0,.int .u8 0,.string (⟨#[]⟩ : ByteArray),.int .i64 0,.int .i64 0,.int .i64 0,.int .u64 0,.bool false,.bool false] (0,0) _ rfl (by (with_reducible repeat first|apply zN|apply zD|apply zA);refine zP (cs:=#[.int .u8 0,.int .u16 0,.int .u8 0,.string (⟨#[]⟩ : ByteArray),.int .i64 0,.int .i64 0,.int .i64 0,.int .u64 0,.bool false,.bool false]) ?_ 9 _ rfl;(with_reducible repeat first|apply zN|apply zD|apply zA);refine zP (cs:=#[.int .u8 0,.int .u16 0,.int .u8 0,.string (⟨#[]⟩ : ByteArray),.int .i64 0,.int .i64 0,.int .i64 0,.int .u64 0,.bool false,.bool false]) ?_ 8 _ rfl;(with_reducible repeat first|apply zN|apply zD|apply zA);refine zP (cs:=#[.int .u8 0,.int .u16 0,.int .u8 0,.string (⟨#[]⟩ : ByteArray),.int .i64 0,.int .i64 0,.int .i64 0,.int .u64 0,.bool false,.bool false]) ?_ 7 _ rfl;(with_reducible repeat first|apply zN|apply zD|apply zA);refine zP (cs:=#[.int .u8 0,.int .u16 0,.int .u8 0,.string (⟨#[]⟩ : ByteArray),.int .i64 0,.int .i64 0,.int .i64 0,.int .u64 0,.bool false,.bool false]) ?_ 6 _ rfl;(with_reducible repeat first|apply zN|apply zD|apply zA);refine zP (cs:=#[.int .u8 0,.int .u16 0,.int .u8 0,.string (⟨#[]⟩ : ByteArray),.int .i64 0,.int .i64 0,.int .i64 0,.int .u64 0,.bool false,.bool false]) ?_ 5 _ rfl;(with_reducible repeat first|apply zN|apply zD|apply zA);refine zP (cs:=#[.int .u8 0,.int .u16 0,.int .u8 0,.string (⟨#[]⟩ : ByteArray),.int .i64 0,.int .i64 0,.int .i64 0,.int .u64 0,.bool false,.bool false]) ?_ 4 _ rfl;(with_reducible repeat first|apply zN|apply zD|apply zA);refine zP (cs:=#[.int .u8 0,.int .u16 0,.int .u8 0,.string (⟨#[]⟩ : ByteArray),.int .i64 0,.int .i64 0,.int .i64 0,.int .u64 0,.bool false,.bool false]) ?_ 3 _ rfl;(with_reducible repeat first|apply zN|apply zD|apply zA);refine zP (cs:=#[.int .u8 0,.int .u16 0,.int .u8 0,.string (⟨#[]⟩ : ByteArray),.int .i64 0,.int .i64 0,.int .i64 0,.int .u64 0,.bool false,.bool false]) ?_ 2 _ rfl;(with_reducible repeat first|apply zN|apply zD|apply zA);refine zP (cs:=#[.int .u8 0,.int .u16 0,.int .u8 0,.string (⟨#[]⟩ : ByteArray),.int .i64 0,.int .i64 0,.int .i64 0,.int .u64 0,.bool false,.bool false]) ?_ 1 _ rfl;(with_reducible repeat first|apply zN|apply zD|apply zA);refine zP (cs:=#[.int .u8 0,.int .u16 0,.int .u8 0,.string (⟨#[]⟩ : ByteArray),.int .i64 0,.int .i64 0,.int .i64 0,.int .u64 0,.bool false,.bool false]) ?_ 0 _ rfl;(with_reducible repeat first|apply zN|apply zD|apply zA);exact z04.out) Try.underlying47 rfl (by kernel_rfl)) rfl ?_;exact ⟨by first|rfl|(simp [errW_none,errW_some] <;> rfl)|(simp [*,errW_none,errW_some] <;> rfl),by repeat (first|(with_reducible first|exact HB.out|apply yA|apply yN|apply yD|refine yS ?_ z05.out|refine yS ?_ z07.out)|exact HB.out)⟩

/-! ### field_sum: function 67 -/
def field_sum.l0 : Nat → Int → List Int → Int → Int → Option (Int)
  | 0, _, _, _, _ => none
  | k + 1, x3, x6, x7, x8 => if x8 < x7 then (if 0 ≤ x8 then (if x8 < (x6.length : Int) then ((field_may.f (rd x6 x8)).bind fun t236 => (if t236 = true then (field_sum.l0 k (wrap64 (x3 + (rd x6 x8))) x6 x7 (wrap64 (x8 + 1))) else (some (-1)))) else (none)) else (none)) else (some x3)
def field_sum.f (k : Nat) (l0 : List Int) : Option (Int) := field_sum.l0 k 0 l0 (l0.length : Int) 0
theorem field_sum.mono_l : ∀ k, (∀ y0 y1 y2 y3, LeO (field_sum.l0 k y0 y1 y2 y3) (field_sum.l0 (k + 1) y0 y1 y2 y3))
 | 0 => fun _ _ _ _ r h => by simp [field_sum.l0] at h
 | k + 1 => by
  have ih0 := field_sum.mono_l k
  intro y0 y1 y2 y3
  unfold field_sum.l0
  repeat' first
  | (with_reducible exact ih0 _ _ _ _)
  | (with_reducible exact LeO.refl _)
  | (with_reducible exact LeO.none _)
  | (with_reducible refine LeO.ite ?_ ?_)
  | (with_reducible refine LeO.bind ?_ (fun _ => ?_))
  | exact ih0 _ _ _ _
  | exact LeO.none _
  | refine LeO.ite ?_ ?_
  | refine LeO.bind ?_ (fun _ => ?_)
theorem field_sum.mono : ∀ a0 k, LeO (field_sum.f k a0) (field_sum.f (k + 1) a0) := by
 intro a0 k;have ih0:=field_sum.mono_l k;unfold field_sum.f
 repeat' first
  | (with_reducible exact ih0 _ _ _ _)
  | (with_reducible exact LeO.refl _)
  | (with_reducible exact LeO.none _)
  | (with_reducible refine LeO.ite ?_ ?_)
  | (with_reducible refine LeO.bind ?_ (fun _ => ?_))
  | exact ih0 _ _ _ _
  | exact LeO.none _
  | refine LeO.ite ?_ ?_
  | refine LeO.bind ?_ (fun _ => ?_)
set_option maxHeartbeats 8000000 in
set_option maxRecDepth 100000 in
theorem field_sum.calls (k : Nat) (A0 : Option Addr) (c0 : Nat) (l0 : List Int) (r : Int) (w : World) (hr0 : Kd.C (Kd.int .i64) w A0 l0.length l0) (hc0 : l0.length ≤ c0) (h : field_sum.f k l0 = some r) :
  Calls Try.prog 67 #[.slice A0 l0.length c0] w fun e w' => e = .returned (.int .i64 r) ∧ Drawn0 w w' := by
 have HR0:=zM hr0;have HC0:=zM hc0;clear hr0 hc0;have H : (field_sum.l0 k 0 l0 (l0.length : Int) 0) = some r:=h;clear h;have H':=zM H;clear H;go_enter Try.func67,Try.ntmps67
 go_wp2;go_loopg [3,8] k (fun kq v3 v8 w' => ∃ (x3_1 : Int) (x8_1 : Int),v3 = .int .i64 x3_1 ∧ v8 = .int .i64 x8_1 ∧ Aside0 (field_sum.l0 kq x3_1 l0 (l0.length : Int) x8_1 = some r) ∧ Aside0 (kq ≤ k) ∧ Drawn0 w w')
 case atStart => exact ⟨(0),(0),(by first|rfl|(simp;done)|(simp [*];done)),(by first|rfl|(simp;done)|(simp [*];done)),H',⟨Nat.le_refl _⟩,by repeat (first|exact Drawn0.refl _|apply Drawn0.step)⟩
 case round =>
  clear H';obtain ⟨x3_1,x8_1,rfl,rfl,HA,HK1,⟨m1,rfl⟩⟩:=hrel;cases gk with
 | zero => exact absurd HA.out (by simp [field_sum.l0])
 | succ k1 =>
   have H:=HA.out;clear HA;simp only [field_sum.l0] at H;by_cases c2 : x8_1 < (l0.length : Int)
   ·
    rw [if_pos c2] at H;have c2b0 : decide (x8_1 < (l0.length : Int)) = true:=dT c2;clear c2;by_cases c3 : 0 ≤ x8_1
    ·
     rw [if_pos c3] at H;have c3b0 : decide (0 ≤ x8_1) = true:=dT c3;clear c3;by_cases c4 : x8_1 < (l0.length : Int)
     ·
      rw [if_pos c4] at H;have c4b0 : decide (x8_1 < (l0.length : Int)) = true:=dT c4;clear c4;replace H:=Option.bind_eq_some_iff.mp H;obtain ⟨z01,A50,H⟩:=H;try dsimp only at H
      have A5:=zM A50;clear A50;by_cases c6 : z01 = true
      ·
       subst c6;have H1 : (field_sum.l0 k1 (wrap64 (x3_1 + (rd l0 x8_1))) l0 (l0.length : Int) (wrap64 (x8_1 + 1))) = some r:=by rw [if_pos rfl] at H;exact H
       clear H;have H:=H1;clear H1;have H':=zM H;clear H;have p235 : 0 ≤ (x8_1 : Int):=of_decide_eq_true (by first|(with_reducible assumption)|assumption);have q235 : x8_1 < (l0.length : Int):=of_decide_eq_true (by first|(with_reducible assumption)|assumption);obtain ⟨ad235,e235,z00⟩:=Kd.at_int HR0.out x8_1 p235 q235;cases e235;replace p235:=eq_true p235;replace q235:=eq_true q235;go_wp2_with (first|((with_reducible refine gate_callee (f:=69) rfl ?_);refine goesL_ (some 13) rfl rfl Try.func69 (by kernel_rfl) rfl #[.int .i64 (rd l0 x8_1)] rfl (by (try simp only [List.map_toArray,List.map_cons,List.map_nil]);first|done|rfl|(simp only [List.length_drop,List.length_take];rfl)) ?_;(with_reducible refine (field_may.calls (rd l0 x8_1) true _ A5.out).mono ?_);rintro e w' ⟨rfl,⟨nd,rfl⟩⟩;refine ⟨_,rfl,?_⟩))
       go_roundg k1
       case measure => have:=HK1.out;omega
       case rel => exact ⟨(wrap64 (x3_1 + (rd l0 x8_1))),(wrap64 (x8_1 + 1)),(by first|rfl|(simp;done)|(simp [*];done)),(by first|rfl|(simp;done)|(simp [*];done)),H',⟨by have:=HK1.out;omega⟩,by repeat (first|exact Drawn0.refl _|apply Drawn0.step)⟩
      replace c6:=Bool.eq_false_iff.mpr c6;subst c6;have H1 : (some (-1)) = some r:=by rw [if_neg (show ¬ (false = true) by decide)] at H;exact H
      clear H;have H:=H1;clear H1;obtain rfl:=Option.some.inj H;have p235 : 0 ≤ (x8_1 : Int):=of_decide_eq_true (by first|(with_reducible assumption)|assumption);have q235 : x8_1 < (l0.length : Int):=of_decide_eq_true (by first|(with_reducible assumption)|assumption);obtain ⟨ad235,e235,z00⟩:=Kd.at_int HR0.out x8_1 p235 q235;cases e235;replace p235:=eq_true p235;replace q235:=eq_true q235;go_wp2_with (first|((with_reducible refine gate_callee (f:=69) rfl ?_);refine goesL_ (some 13) rfl rfl Try.func69 (by kernel_rfl) rfl #[.int .i64 (rd l0 x8_1)] rfl (by (try simp only [List.map_toArray,List.map_cons,List.map_nil]);first|done|rfl|(simp only [List.length_drop,List.length_take];rfl)) ?_;(with_reducible refine (field_may.calls (rd l0 x8_1) false _ A5.out).mono ?_);rintro e w' ⟨rfl,⟨nd,rfl⟩⟩;refine ⟨_,rfl,?_⟩))
      go_ret;exact ⟨by first|rfl|(simp;done)|(simp [*];done),by repeat (first|exact Drawn0.refl _|apply Drawn0.step)⟩
     rw [if_neg c4] at H;exact absurd H (by simp)
    rw [if_neg c3] at H;exact absurd H (by simp)
   rw [if_neg c2] at H;have c2b0 : decide (x8_1 < (l0.length : Int)) = false:=dF c2;clear c2;obtain rfl:=Option.some.inj H;go_wp2;go_ret;exact ⟨by first|rfl|(simp;done)|(simp [*];done),by repeat (first|exact Drawn0.refl _|apply Drawn0.step)⟩

/-! ### field_Split: function 45 -/
mutual
def field_Split.l0 : Nat → ByteArray → Int → List Int → Int → List Int → Int → Int → Option (List Int × ByteArray × Int)
  | 0, _, _, _, _, _, _, _ => none
  | k + 1, x0, x7, x8, x9, x28, x29, x30 => if x30 < x29 then (if 0 ≤ x30 then (if x30 < (x28.length : Int) then (field_Split.l1 k x0 x7 x8 x9 0 x28 x29 x30 (rd x28 x30) 0) else (none)) else (none)) else (if 0 ≤ (wrap64 (Int.tdiv x7 8)) then (if (wrap64 (Int.tdiv x7 8)) ≤ (x0.size : Int) then (some (x8, x0.extract ((wrap64 (Int.tdiv x7 8)) : Int).toNat x0.size, 0)) else (none)) else (none))
def field_Split.l1 : Nat → ByteArray → Int → List Int → Int → Int → List Int → Int → Int → Int → Int → Option (List Int × ByteArray × Int)
  | 0, _, _, _, _, _, _, _, _, _, _ => none
  | k + 1, x0, x7, x8, x9, x12, x28, x29, x30, x34, x35 => if x35 < x34 then (if 0 ≤ (wrap64 (Int.tdiv x9 8)) then (if (wrap64 (Int.tdiv x9 8)) < (x0.size : Int) then (if 0 ≤ (wrap64 (7 - (Int.tmod x9 8))) then (field_Split.l1 k x0 x7 x8 (wrap64 (x9 + 1)) (Go.bits .or .u64 (IntKind.u64.wrap (x12 * 2)) (IntKind.u64.wrap (Go.bits .and .u8 (shr .u8 (bt x0 (wrap64 (Int.tdiv x9 8))) (wrap64 (7 - (Int.tmod x9 8)))) 1))) x28 x29 x30 x34 (wrap64 (x35 + 1))) else (none)) else (none)) else (none)) else (if x8.length < 17592186044416 then (field_Split.l0 k x0 x7 (x8 ++ [x12]) x9 x28 x29 (wrap64 (x30 + 1))) else (none))
end
def field_Split.f (k : Nat) (a0 : ByteArray) (l1 : List Int) : Option (List Int × ByteArray × Int) := (field_sum.f k l1).bind fun t237 => (if t237 < 0 then (some (([] : List Int), (⟨#[]⟩ : ByteArray), 4)) else (if (Int.tmod t237 8) = 0 then (if (wrap64 (Int.tdiv t237 8)) > (a0.size : Int) then (some (([] : List Int), (⟨#[]⟩ : ByteArray), 1)) else (field_Split.l0 k a0 t237 ([] : List Int) 0 l1 (l1.length : Int) 0)) else (some (([] : List Int), (⟨#[]⟩ : ByteArray), 3))))
theorem field_Split.mono_l : ∀ k, (∀ y0 y1 y2 y3 y4 y5 y6, LeO (field_Split.l0 k y0 y1 y2 y3 y4 y5 y6) (field_Split.l0 (k + 1) y0 y1 y2 y3 y4 y5 y6)) ∧ (∀ y0 y1 y2 y3 y4 y5 y6 y7 y8 y9, LeO (field_Split.l1 k y0 y1 y2 y3 y4 y5 y6 y7 y8 y9) (field_Split.l1 (k + 1) y0 y1 y2 y3 y4 y5 y6 y7 y8 y9))
 | 0 => ⟨fun _ _ _ _ _ _ _ r h => by simp [field_Split.l0] at h, fun _ _ _ _ _ _ _ _ _ _ r h => by simp [field_Split.l1] at h⟩
 | k + 1 => by
  obtain ⟨ih0, ih1⟩ := field_Split.mono_l k
  refine ⟨?_, ?_⟩
  ·
   intro y0 y1 y2 y3 y4 y5 y6
   unfold field_Split.l0
   repeat' first
   | (with_reducible exact ih0 _ _ _ _ _ _ _)
   | (with_reducible exact ih1 _ _ _ _ _ _ _ _ _ _)
   | (with_reducible exact field_sum.mono _ _)
   | (with_reducible exact LeO.refl _)
   | (with_reducible exact LeO.none _)
   | (with_reducible refine LeO.ite ?_ ?_)
   | (with_reducible refine LeO.bind ?_ (fun _ => ?_))
   | exact ih0 _ _ _ _ _ _ _
   | exact ih1 _ _ _ _ _ _ _ _ _ _
   | exact field_sum.mono _ _
   | exact LeO.none _
   | refine LeO.ite ?_ ?_
   | refine LeO.bind ?_ (fun _ => ?_)
  intro y0 y1 y2 y3 y4 y5 y6 y7 y8 y9
  unfold field_Split.l1
  repeat' first
  | (with_reducible exact ih0 _ _ _ _ _ _ _)
  | (with_reducible exact ih1 _ _ _ _ _ _ _ _ _ _)
  | (with_reducible exact field_sum.mono _ _)
  | (with_reducible exact LeO.refl _)
  | (with_reducible exact LeO.none _)
  | (with_reducible refine LeO.ite ?_ ?_)
  | (with_reducible refine LeO.bind ?_ (fun _ => ?_))
  | exact ih0 _ _ _ _ _ _ _
  | exact ih1 _ _ _ _ _ _ _ _ _ _
  | exact field_sum.mono _ _
  | exact LeO.none _
  | refine LeO.ite ?_ ?_
  | refine LeO.bind ?_ (fun _ => ?_)
theorem field_Split.mono : ∀ a0 a1 k, LeO (field_Split.f k a0 a1) (field_Split.f (k + 1) a0 a1) := by
 intro a0 a1 k;obtain ⟨ih0,ih1⟩:=field_Split.mono_l k;unfold field_Split.f
 repeat' first
  | (with_reducible exact ih0 _ _ _ _ _ _ _)
  | (with_reducible exact ih1 _ _ _ _ _ _ _ _ _ _)
  | (with_reducible exact field_sum.mono _ _)
  | (with_reducible exact LeO.refl _)
  | (with_reducible exact LeO.none _)
  | (with_reducible refine LeO.ite ?_ ?_)
  | (with_reducible refine LeO.bind ?_ (fun _ => ?_))
  | exact ih0 _ _ _ _ _ _ _
  | exact ih1 _ _ _ _ _ _ _ _ _ _
  | exact field_sum.mono _ _
  | exact LeO.none _
  | refine LeO.ite ?_ ?_
  | refine LeO.bind ?_ (fun _ => ?_)
set_option maxHeartbeats 8000000 in
set_option maxRecDepth 100000 in
theorem field_Split.calls (k : Nat) (a0 : ByteArray) (A1 : Option Addr) (c1 : Nat) (l1 : List Int) (r1 : List Int) (r2 : ByteArray) (r3 : Int) (w : World) (hr1 : Kd.C (Kd.int .i64) w A1 l1.length l1) (hc1 : l1.length ≤ c1) (h : field_Split.f k a0 l1 = some (r1, r2, r3)) :
  Calls Try.prog 45 #[.string a0, .slice A1 l1.length c1] w fun e w' => ∃ v0_ : Value, e = .returned (.tuple #[v0_, .string r2, .int .i64 r3]) ∧ Kd.R (Kd.int .u64) 33 w' w.heap.size (fun _ => True) v0_ r1 ∧ Below w.heap.size w w' := by
 have HR1:=zM hr1;have HC1:=zM hc1;clear hr1 hc1;have HB:=zM (Below.refl w.heap.size w);have H : ((field_sum.f k l1).bind fun z00 => (if z00 < 0 then (some (([] : List Int),(⟨#[]⟩ : ByteArray),4)) else (if (Int.tmod z00 8) = 0 then (if (wrap64 (Int.tdiv z00 8)) > (a0.size : Int) then (some (([] : List Int),(⟨#[]⟩ : ByteArray),1)) else (field_Split.l0 k a0 z00 ([] : List Int) 0 l1 (l1.length : Int) 0)) else (some (([] : List Int),(⟨#[]⟩ : ByteArray),3))))) = some (r1,r2,r3):=h;clear h;replace H:=Option.bind_eq_some_iff.mp H;obtain ⟨z00,A30,H⟩:=H;try dsimp only at H
 have A3:=zM A30;clear A30;by_cases c4 : z00 < 0
 ·
  rw [if_pos c4] at H;have c4b0 : decide (z00 < 0) = true:=dT c4;clear c4;simp only [Option.some.injEq,Prod.mk.injEq] at H;obtain ⟨rfl,rfl,rfl⟩:=H;go_enter Try.func45,Try.ntmps45
  go_wp2_with (first|(go_at_call 67;(with_reducible refine (field_sum.calls k _ _ l1 z00 _ ?side1 ?side2 A3.out).mono ?_);(case side1 => repeat (first|exact HR1.out|(with_reducible refine Kd.C_alloc ?_ _)|(with_reducible refine Kd.C_drewN ?_ _)|(with_reducible refine Kd.C_drew ?_)));(case side2 => exact HC1.out);rintro e w' ⟨rfl,⟨nd,rfl⟩⟩;(try first|exact ⟨rfl,_,World.drewN_drewN _ _ _⟩|exact ⟨rfl,_,Eq.trans (World.drewN_drewN _ _ _) (congrArg (World.drewN _) (Nat.add_assoc _ _ _))⟩)))
  repeat (go_quiet (first|(go_at_call 67;(with_reducible refine (field_sum.calls k _ _ l1 z00 _ ?side1 ?side2 A3.out).mono ?_);(case side1 => repeat (first|exact HR1.out|(with_reducible refine Kd.C_alloc ?_ _)|(with_reducible refine Kd.C_drewN ?_ _)|(with_reducible refine Kd.C_drew ?_)));(case side2 => exact HC1.out);rintro e w' ⟨rfl,⟨nd,rfl⟩⟩;(try first|exact ⟨rfl,_,World.drewN_drewN _ _ _⟩|exact ⟨rfl,_,Eq.trans (World.drewN_drewN _ _ _) (congrArg (World.drewN _) (Nat.add_assoc _ _ _))⟩)));try go_wp2_with (first|(go_at_call 67;(with_reducible refine (field_sum.calls k _ _ l1 z00 _ ?side1 ?side2 A3.out).mono ?_);(case side1 => repeat (first|exact HR1.out|(with_reducible refine Kd.C_alloc ?_ _)|(with_reducible refine Kd.C_drewN ?_ _)|(with_reducible refine Kd.C_drew ?_)));(case side2 => exact HC1.out);rintro e w' ⟨rfl,⟨nd,rfl⟩⟩;(try first|exact ⟨rfl,_,World.drewN_drewN _ _ _⟩|exact ⟨rfl,_,Eq.trans (World.drewN_drewN _ _ _) (congrArg (World.drewN _) (Nat.add_assoc _ _ _))⟩))))
  go_ret3
  exact ⟨_,by first|rfl|(simp [errW_none,errW_some] <;> rfl)|(simp [*,errW_none,errW_some] <;> rfl),by first|exact Kd.R_nil _ _ _ _ _|exact Kd.N_nil _ _ _ _ _|exact Kd.V_nil _ _ _ _ _|exact Kd.Q_nil _ _ _ _ _|exact Kd.S_nil _ _ _ _ _,by repeat first|(with_reducible first|exact HB.out|apply yA|apply yN|apply yD)|exact HB.out⟩
 rw [if_neg c4] at H;have c4b0 : decide (z00 < 0) = false:=dF c4;clear c4;by_cases c5 : (Int.tmod z00 8) = 0
 ·
  rw [if_pos c5] at H;have c5b0 : ((Int.tmod z00 8) == 0) = true:=beq_iff_eq.mpr c5;have c5b1 : ((Int.tmod z00 8) != 0) = false:=bne_eq_false_iff_eq.mpr c5;clear c5;by_cases c6 : (wrap64 (Int.tdiv z00 8)) > (a0.size : Int)
  ·
   rw [if_pos c6] at H;have c6b0 : decide ((a0.size : Int) < (wrap64 (Int.tdiv z00 8))) = true:=dT c6;clear c6;simp only [Option.some.injEq,Prod.mk.injEq] at H;obtain ⟨rfl,rfl,rfl⟩:=H;go_enter Try.func45,Try.ntmps45
   go_wp2_with (first|(go_at_call 67;(with_reducible refine (field_sum.calls k _ _ l1 z00 _ ?side1 ?side2 A3.out).mono ?_);(case side1 => repeat (first|exact HR1.out|(with_reducible refine Kd.C_alloc ?_ _)|(with_reducible refine Kd.C_drewN ?_ _)|(with_reducible refine Kd.C_drew ?_)));(case side2 => exact HC1.out);rintro e w' ⟨rfl,⟨nd,rfl⟩⟩;(try first|exact ⟨rfl,_,World.drewN_drewN _ _ _⟩|exact ⟨rfl,_,Eq.trans (World.drewN_drewN _ _ _) (congrArg (World.drewN _) (Nat.add_assoc _ _ _))⟩)))
   repeat (go_quiet (first|(go_at_call 67;(with_reducible refine (field_sum.calls k _ _ l1 z00 _ ?side1 ?side2 A3.out).mono ?_);(case side1 => repeat (first|exact HR1.out|(with_reducible refine Kd.C_alloc ?_ _)|(with_reducible refine Kd.C_drewN ?_ _)|(with_reducible refine Kd.C_drew ?_)));(case side2 => exact HC1.out);rintro e w' ⟨rfl,⟨nd,rfl⟩⟩;(try first|exact ⟨rfl,_,World.drewN_drewN _ _ _⟩|exact ⟨rfl,_,Eq.trans (World.drewN_drewN _ _ _) (congrArg (World.drewN _) (Nat.add_assoc _ _ _))⟩)));try go_wp2_with (first|(go_at_call 67;(with_reducible refine (field_sum.calls k _ _ l1 z00 _ ?side1 ?side2 A3.out).mono ?_);(case side1 => repeat (first|exact HR1.out|(with_reducible refine Kd.C_alloc ?_ _)|(with_reducible refine Kd.C_drewN ?_ _)|(with_reducible refine Kd.C_drew ?_)));(case side2 => exact HC1.out);rintro e w' ⟨rfl,⟨nd,rfl⟩⟩;(try first|exact ⟨rfl,_,World.drewN_drewN _ _ _⟩|exact ⟨rfl,_,Eq.trans (World.drewN_drewN _ _ _) (congrArg (World.drewN _) (Nat.add_assoc _ _ _))⟩))))
   go_ret3
   exact ⟨_,by first|rfl|(simp [errW_none,errW_some] <;> rfl)|(simp [*,errW_none,errW_some] <;> rfl),by first|exact Kd.R_nil _ _ _ _ _|exact Kd.N_nil _ _ _ _ _|exact Kd.V_nil _ _ _ _ _|exact Kd.Q_nil _ _ _ _ _|exact Kd.S_nil _ _ _ _ _,by repeat first|(with_reducible first|exact HB.out|apply yA|apply yN|apply yD)|exact HB.out⟩
  rw [if_neg c6] at H;have c6b0 : decide ((a0.size : Int) < (wrap64 (Int.tdiv z00 8))) = false:=dF c6;clear c6;have H':=zM H;clear H;go_enter Try.func45,Try.ntmps45
  go_wp2_with (first|(go_at_call 67;(with_reducible refine (field_sum.calls k _ _ l1 z00 _ ?side1 ?side2 A3.out).mono ?_);(case side1 => repeat (first|exact HR1.out|(with_reducible refine Kd.C_alloc ?_ _)|(with_reducible refine Kd.C_drewN ?_ _)|(with_reducible refine Kd.C_drew ?_)));(case side2 => exact HC1.out);rintro e w' ⟨rfl,⟨nd,rfl⟩⟩;(try first|exact ⟨rfl,_,World.drewN_drewN _ _ _⟩|exact ⟨rfl,_,Eq.trans (World.drewN_drewN _ _ _) (congrArg (World.drewN _) (Nat.add_assoc _ _ _))⟩)))
  repeat (go_quiet (first|(go_at_call 67;(with_reducible refine (field_sum.calls k _ _ l1 z00 _ ?side1 ?side2 A3.out).mono ?_);(case side1 => repeat (first|exact HR1.out|(with_reducible refine Kd.C_alloc ?_ _)|(with_reducible refine Kd.C_drewN ?_ _)|(with_reducible refine Kd.C_drew ?_)));(case side2 => exact HC1.out);rintro e w' ⟨rfl,⟨nd,rfl⟩⟩;(try first|exact ⟨rfl,_,World.drewN_drewN _ _ _⟩|exact ⟨rfl,_,Eq.trans (World.drewN_drewN _ _ _) (congrArg (World.drewN _) (Nat.add_assoc _ _ _))⟩)));try go_wp2_with (first|(go_at_call 67;(with_reducible refine (field_sum.calls k _ _ l1 z00 _ ?side1 ?side2 A3.out).mono ?_);(case side1 => repeat (first|exact HR1.out|(with_reducible refine Kd.C_alloc ?_ _)|(with_reducible refine Kd.C_drewN ?_ _)|(with_reducible refine Kd.C_drew ?_)));(case side2 => exact HC1.out);rintro e w' ⟨rfl,⟨nd,rfl⟩⟩;(try first|exact ⟨rfl,_,World.drewN_drewN _ _ _⟩|exact ⟨rfl,_,Eq.trans (World.drewN_drewN _ _ _) (congrArg (World.drewN _) (Nat.add_assoc _ _ _))⟩))))
  go_loopg [8,9,30] k (fun kq v8 v9 v30 w' => ∃ (x8_1 : List Int) (x9_1 : Int) (x30_1 : Int),v9 = .int .i64 x9_1 ∧ v30 = .int .i64 x30_1 ∧ Aside0 (field_Split.l0 kq a0 z00 x8_1 x9_1 l1 (l1.length : Int) x30_1 = some (r1,r2,r3)) ∧ Aside0 (kq ≤ k) ∧ Aside0 (Kd.R (Kd.int .u64) 33 w' w.heap.size (fun _ => True) v8 x8_1) ∧ Aside0 (Below w.heap.size w w'))
  case atStart => exact ⟨(([] : List Int)),(0),(0),(by first|rfl|(simp;done)|(simp [*];done)),(by first|rfl|(simp;done)|(simp [*];done)),H',⟨Nat.le_refl _⟩,⟨by first|exact Kd.R_nil _ _ _ _ _|exact Kd.N_nil _ _ _ _ _|exact Kd.V_nil _ _ _ _ _|exact Kd.Q_nil _ _ _ _ _|exact Kd.S_nil _ _ _ _ _⟩,⟨by repeat first|(with_reducible first|exact HB.out|apply yA|apply yN|apply yD)|exact HB.out⟩⟩
  case round =>
   clear H';try clear c1
   try clear p2
   try clear c4
   try clear c4b0
   try clear c5
   try clear c5b0
   try clear c5b1
   try clear c6
   try clear c6b0
   try clear p6
   obtain ⟨x8_1,x9_1,x30_1,rfl,rfl,HA,HK1,HO_8,HB⟩:=hrel;cases gk with
  | zero => exact absurd HA.out (by simp [field_Split.l0])
  | succ k1 =>
    have H:=HA.out;clear HA;simp only [field_Split.l0] at H;by_cases c7 : x30_1 < (l1.length : Int)
    ·
     rw [if_pos c7] at H;have c7b0 : decide (x30_1 < (l1.length : Int)) = true:=dT c7;clear c7;by_cases c8 : 0 ≤ x30_1
     ·
      rw [if_pos c8] at H;have c8b0 : decide (0 ≤ x30_1) = true:=dT c8;clear c8;by_cases c9 : x30_1 < (l1.length : Int)
      ·
       rw [if_pos c9] at H;have c9b0 : decide (x30_1 < (l1.length : Int)) = true:=dT c9;clear c9;have H':=zM H;clear H;have p238 : 0 ≤ (x30_1 : Int):=of_decide_eq_true (by first|(with_reducible assumption)|assumption);have q238 : x30_1 < (l1.length : Int):=of_decide_eq_true (by first|(with_reducible assumption)|assumption);obtain ⟨ad238,e238,z01⟩:=Kd.at_int HR1.out x30_1 p238 q238;cases e238;replace z01:=(HB.out.cell (World.block_lt_of_cell? w _ z01)).trans z01;replace p238:=eq_true p238;replace q238:=eq_true q238;go_wp2;repeat (go_quiet (fail);try go_wp2)
       go_loopg [9,12,35] k1 (fun kq v9 v12 v35 w' => ∃ (x9_2 : Int) (x12_2 : Int) (x35_2 : Int),v9 = .int .i64 x9_2 ∧ v12 = .int .u64 x12_2 ∧ v35 = .int .i64 x35_2 ∧ Aside0 (field_Split.l1 kq a0 z00 x8_1 x9_2 x12_2 l1 (l1.length : Int) x30_1 (rd l1 x30_1) x35_2 = some (r1,r2,r3)) ∧ Aside0 (kq ≤ k1) ∧ Aside0 (Kd.R (Kd.int .u64) 33 w' w.heap.size (fun _ => True) u8 x8_1) ∧ Aside0 (Below w.heap.size w w'))
       case atStart => exact ⟨(x9_1),(0),(0),(by first|rfl|(simp;done)|(simp [*];done)),(by first|rfl|(simp;done)|(simp [*];done)),(by first|rfl|(simp;done)|(simp [*];done)),H',⟨Nat.le_refl _⟩,⟨by (with_reducible repeat (first|apply Kd.R_alloc|apply Kd.R_drewN|apply Kd.R_drew));exact HO_8.out⟩,⟨by repeat first|(with_reducible first|exact HB.out|apply yA|apply yN|apply yD)|exact HB.out⟩⟩
       case round =>
        clear H';try clear c1
        try clear p2
        try clear q2
        try clear hx2
        try clear c4
        try clear c4b0
        try clear c5
        try clear c5b0
        try clear c5b1
        try clear c6
        try clear c6b0
        try clear p6
        try clear c7
        try clear c7b0
        try clear c8
        try clear c8b0
        try clear c9
        try clear c9b0
        try clear z01
        try clear p2
        try clear p238
        try clear p6
        try clear q238
        obtain ⟨x9_2,x12_2,x35_2,rfl,rfl,rfl,HA,HK2,HO_8,HB⟩:=hrel;cases gk with
       | zero => exact absurd HA.out (by simp [field_Split.l1])
       | succ k2 =>
         have H:=HA.out;clear HA;simp only [field_Split.l1] at H;by_cases c10 : x35_2 < (rd l1 x30_1)
         ·
          rw [if_pos c10] at H;have c10b0 : decide (x35_2 < (rd l1 x30_1)) = true:=dT c10;clear c10;obtain ⟨ji11,hji11⟩ : ∃ j_ : Int,(wrap64 (Int.tdiv x9_2 8)) = j_:=⟨_,rfl⟩
          replace H : (if 0 ≤ (ji11) then (if (ji11) < (a0.size : Int) then (if 0 ≤ (wrap64 (7 - (Int.tmod x9_2 8))) then (field_Split.l1 k2 a0 z00 x8_1 (wrap64 (x9_2 + 1)) (Go.bits .or .u64 (IntKind.u64.wrap (x12_2 * 2)) (IntKind.u64.wrap (Go.bits .and .u8 (shr .u8 (bt a0 (ji11)) (wrap64 (7 - (Int.tmod x9_2 8)))) 1))) l1 (l1.length : Int) x30_1 (rd l1 x30_1) (wrap64 (x35_2 + 1))) else (none)) else (none)) else (none)) = some (r1,r2,r3):=by first|(rw [hji11] at H;exact H)|(simp only [hji11] at H ⊢;exact H)
          have hji11w : (IntKind.i64.wrap (Int.tdiv x9_2 8)) = ji11:=(i64_w _).trans hji11;by_cases c12 : 0 ≤ (ji11)
          ·
           rw [if_pos c12] at H;have c12b0 : decide (0 ≤ (ji11)) = true:=dT c12;clear c12;by_cases c13 : (ji11) < (a0.size : Int)
           ·
            rw [if_pos c13] at H;have c13b0 : decide ((ji11) < (a0.size : Int)) = true:=dT c13;clear c13;obtain ⟨ji15,hji15⟩ : ∃ j_ : Int,(wrap64 (7 - (Int.tmod x9_2 8))) = j_:=⟨_,rfl⟩
            replace H : (if 0 ≤ (ji15) then (field_Split.l1 k2 a0 z00 x8_1 (wrap64 (x9_2 + 1)) (Go.bits .or .u64 (IntKind.u64.wrap (x12_2 * 2)) (IntKind.u64.wrap (Go.bits .and .u8 (shr .u8 (bt a0 (ji11)) (ji15)) 1))) l1 (l1.length : Int) x30_1 (rd l1 x30_1) (wrap64 (x35_2 + 1))) else (none)) = some (r1,r2,r3):=by first|(rw [hji15] at H;exact H)|(simp only [hji15] at H ⊢;exact H)
            have hji15w : (IntKind.i64.wrap (7 - (Int.tmod x9_2 8))) = ji15:=(i64_w _).trans hji15;by_cases c16 : 0 ≤ (ji15)
            ·
             rw [if_pos c16] at H;have c16b0:=eq_true c16;have c16b1 : decide (0 ≤ (ji15)) = true:=dT c16;clear c16;obtain ⟨ji17,hji17⟩ : ∃ j_ : Int,(shr .u8 (bt a0 (ji11)) (ji15)) = j_:=⟨_,rfl⟩
             replace H : (field_Split.l1 k2 a0 z00 x8_1 (wrap64 (x9_2 + 1)) (Go.bits .or .u64 (IntKind.u64.wrap (x12_2 * 2)) (IntKind.u64.wrap (Go.bits .and .u8 (ji17) 1))) l1 (l1.length : Int) x30_1 (rd l1 x30_1) (wrap64 (x35_2 + 1))) = some (r1,r2,r3):=by first|(rw [hji17] at H;exact H)|(simp only [hji17] at H ⊢;exact H)
             have hji17_ : ((bt a0 (ji11)) / 2 ^ min (ji15).toNat 8) = ji17:=hji17;have hji17z : (ji15) ≤ 8 → ((bt a0 (ji11)) / 2 ^ (ji15).toNat) = ji17:=shr_small hji17;have H':=zM H;clear H;have p14 : 0 ≤ ((ji11) : Int):=of_decide_eq_true (by first|(with_reducible assumption)|assumption);have q14 : (ji11) < (a0.size : Int):=of_decide_eq_true (by first|(with_reducible assumption)|assumption);have z03:=bt_at a0 (ji11);replace p14:=eq_true p14;replace q14:=eq_true q14;go_wp2;repeat (go_quiet (fail);try go_wp2)
             go_roundg k2
             case measure => have:=HK1.out;have:=HK2.out;omega
             case rel => exact ⟨(wrap64 (x9_2 + 1)),(Go.bits .or .u64 (IntKind.u64.wrap (x12_2 * 2)) (IntKind.u64.wrap (Go.bits .and .u8 (ji17) 1))),(wrap64 (x35_2 + 1)),(by first|rfl|(simp;done)|(simp [*];done)),(by first|rfl|(simp;done)|(simp only [← hji17] <;> (first|rfl|simp))|(simp [*];done)),(by first|rfl|(simp;done)|(simp [*];done)),H',⟨by have:=HK1.out;have:=HK2.out;omega⟩,⟨by (with_reducible repeat (first|apply Kd.R_alloc|apply Kd.R_drewN|apply Kd.R_drew));exact HO_8.out⟩,⟨by repeat first|(with_reducible first|exact HB.out|apply yA|apply yN|apply yD)|exact HB.out⟩⟩
            rw [if_neg c16] at H;exact absurd H (by simp)
           rw [if_neg c13] at H;exact absurd H (by simp)
          rw [if_neg c12] at H;exact absurd H (by simp)
         rw [if_neg c10] at H;have c10b0 : decide (x35_2 < (rd l1 x30_1)) = false:=dF c10;clear c10;by_cases c18 : x8_1.length < 17592186044416
         ·
          rw [if_pos c18] at H;have LMc18:=zM c18;clear c18;obtain ⟨y239,hy239⟩ : ∃ y_ : List Int,y_ = (x8_1 ++ [x12_2]):=⟨_,rfl⟩
          replace H : (field_Split.l0 k2 a0 z00 y239 x9_2 l1 (l1.length : Int) (wrap64 (x30_1 + 1))) = some (r1,r2,r3):=by first|(rw [hy239];with_reducible exact H)|(have H2_:=(Option.bind_some _ _).symm.trans H;rw [hy239];with_reducible exact H2_)|(have H2_:=(Option.bind_some _ _).symm.trans H;with_reducible exact H2_)|with_reducible exact H|(rw [hy239];exact H)|exact H
          have Ny239:=zM hy239;clear hy239;have H':=zM H;clear H;go_wp2_with (first|((with_reducible refine gate_builtin (b:=.append) (xs:=#[.tmp 53,.tmp 55]) rfl ?_);at_builtin;refine Kd.R_append (Kd.int .u64) (w0:=w) w.heap.size rfl (.tmp 53) (.tmp 55) 88 33 (.int .u64 0) 8 rfl Try.underlying88 info33 rfl (by decide) (by omega) u8 x8_1 x12_2 [.int .u64 x12_2] (fun _ => True) (fun _ => False) rfl rfl ?aP (fun _ hk => hk.elim) ?aF ?aO ?aB ?aS ?aL ?_;(case aP => exact rfl);(case aB => exact (by repeat first|(with_reducible first|exact HB.out|apply yA|apply yN|apply yD)|exact HB.out));(case aF => exact (fun _ _ => trivial));(case aO => exact (by (with_reducible repeat (first|apply Kd.R_alloc|apply Kd.R_drewN|apply Kd.R_drew));exact HO_8.out));(case aS => exact (yZ (by repeat first|(with_reducible first|exact HB.out|apply yA|apply yN|apply yD)|exact HB.out)));(case aL => have:=LMc18.out;omega);intro v240 w19 ho hb hg hat;rw [← Ny239.out] at ho;have n0_:=zM (hb);have n1_:=zM (ho);clear HB;clear HO_8;have HB:=n0_;have z02:=n1_;clear n0_ n1_;clear ho hb hg hat))
          repeat (go_quiet (first|((with_reducible refine gate_builtin (b:=.append) (xs:=#[.tmp 53,.tmp 55]) rfl ?_);at_builtin;refine Kd.R_append (Kd.int .u64) (w0:=w) w.heap.size rfl (.tmp 53) (.tmp 55) 88 33 (.int .u64 0) 8 rfl Try.underlying88 info33 rfl (by decide) (by omega) u8 x8_1 x12_2 [.int .u64 x12_2] (fun _ => True) (fun _ => False) rfl rfl ?aP (fun _ hk => hk.elim) ?aF ?aO ?aB ?aS ?aL ?_;(case aP => exact rfl);(case aB => exact (by repeat first|(with_reducible first|exact HB.out|apply yA|apply yN|apply yD)|exact HB.out));(case aF => exact (fun _ _ => trivial));(case aO => exact (by (with_reducible repeat (first|apply Kd.R_alloc|apply Kd.R_drewN|apply Kd.R_drew));exact HO_8.out));(case aS => exact (yZ (by repeat first|(with_reducible first|exact HB.out|apply yA|apply yN|apply yD)|exact HB.out)));(case aL => have:=LMc18.out;omega);intro v240 w19 ho hb hg hat;rw [← Ny239.out] at ho;have n0_:=zM (hb);have n1_:=zM (ho);clear HB;clear HO_8;have HB:=n0_;have z02:=n1_;clear n0_ n1_;clear ho hb hg hat));try go_wp2_with (first|((with_reducible refine gate_builtin (b:=.append) (xs:=#[.tmp 53,.tmp 55]) rfl ?_);at_builtin;refine Kd.R_append (Kd.int .u64) (w0:=w) w.heap.size rfl (.tmp 53) (.tmp 55) 88 33 (.int .u64 0) 8 rfl Try.underlying88 info33 rfl (by decide) (by omega) u8 x8_1 x12_2 [.int .u64 x12_2] (fun _ => True) (fun _ => False) rfl rfl ?aP (fun _ hk => hk.elim) ?aF ?aO ?aB ?aS ?aL ?_;(case aP => exact rfl);(case aB => exact (by repeat first|(with_reducible first|exact HB.out|apply yA|apply yN|apply yD)|exact HB.out));(case aF => exact (fun _ _ => trivial));(case aO => exact (by (with_reducible repeat (first|apply Kd.R_alloc|apply Kd.R_drewN|apply Kd.R_drew));exact HO_8.out));(case aS => exact (yZ (by repeat first|(with_reducible first|exact HB.out|apply yA|apply yN|apply yD)|exact HB.out)));(case aL => have:=LMc18.out;omega);intro v240 w19 ho hb hg hat;rw [← Ny239.out] at ho;have n0_:=zM (hb);have n1_:=zM (ho);clear HB;clear HO_8;have HB:=n0_;have z02:=n1_;clear n0_ n1_;clear ho hb hg hat)))
          go_roundg k2
          case measure => have:=HK1.out;have:=HK2.out;omega
          case rel => exact ⟨(y239),(x9_2),(wrap64 (x30_1 + 1)),(by first|rfl|(simp;done)|(simp [*];done)),(by first|rfl|(simp;done)|(simp [*];done)),H',⟨by have:=HK1.out;have:=HK2.out;omega⟩,⟨by (with_reducible repeat (first|apply Kd.R_alloc|apply Kd.R_drewN|apply Kd.R_drew));exact z02.out⟩,⟨by repeat first|(with_reducible first|exact HB.out|apply yA|apply yN|apply yD)|exact HB.out⟩⟩
         rw [if_neg c18] at H;exact absurd H (by simp)
      rw [if_neg c9] at H;exact absurd H (by simp)
     rw [if_neg c8] at H;exact absurd H (by simp)
    rw [if_neg c7] at H;have c7b0 : decide (x30_1 < (l1.length : Int)) = false:=dF c7;clear c7;obtain ⟨ji20,hji20⟩ : ∃ j_ : Int,(wrap64 (Int.tdiv z00 8)) = j_:=⟨_,rfl⟩
    replace H : (if 0 ≤ (ji20) then (if (ji20) ≤ (a0.size : Int) then (some (x8_1,a0.extract ((ji20) : Int).toNat a0.size,0)) else (none)) else (none)) = some (r1,r2,r3):=by first|(rw [hji20] at H;exact H)|(simp only [hji20] at H ⊢;exact H)
    (try rw [hji20] at c6b0)
    have hji20w : (IntKind.i64.wrap (Int.tdiv z00 8)) = ji20:=(i64_w _).trans hji20;by_cases c21 : 0 ≤ (ji20)
    ·
     rw [if_pos c21] at H;have c21b0:=eq_true c21;have c21b1 : decide (0 ≤ (ji20)) = true:=dT c21;clear c21;by_cases c22 : (ji20) ≤ (a0.size : Int)
     ·
      rw [if_pos c22] at H;have c22b0:=eq_true c22;have c22b1 : decide ((ji20) ≤ (a0.size : Int)) = true:=dT c22;clear c22;simp only [Option.some.injEq,Prod.mk.injEq] at H;obtain ⟨rfl,rfl,rfl⟩:=H;go_wp2;repeat (go_quiet (fail);try go_wp2)
      go_ret3
      exact ⟨_,by first|rfl|(simp [errW_none,errW_some] <;> rfl)|(simp only [← hji20];first|rfl|(simp [errW_none,errW_some] <;> rfl))|(simp [*,errW_none,errW_some] <;> rfl),by (with_reducible repeat (first|apply Kd.R_alloc|apply Kd.R_drewN|apply Kd.R_drew));exact HO_8.out,by repeat first|(with_reducible first|exact HB.out|apply yA|apply yN|apply yD)|exact HB.out⟩
     rw [if_neg c22] at H;exact absurd H (by simp)
    rw [if_neg c21] at H;exact absurd H (by simp)
 rw [if_neg c5] at H;have c5b0 : ((Int.tmod z00 8) == 0) = false:=beq_eq_false_iff_ne.mpr c5;have c5b1 : ((Int.tmod z00 8) != 0) = true:=bne_iff_ne.mpr c5;simp only [Option.some.injEq,Prod.mk.injEq] at H;obtain ⟨rfl,rfl,rfl⟩:=H;go_enter Try.func45,Try.ntmps45
 go_wp2_with (first|(go_at_call 67;(with_reducible refine (field_sum.calls k _ _ l1 z00 _ ?side1 ?side2 A3.out).mono ?_);(case side1 => repeat (first|exact HR1.out|(with_reducible refine Kd.C_alloc ?_ _)|(with_reducible refine Kd.C_drewN ?_ _)|(with_reducible refine Kd.C_drew ?_)));(case side2 => exact HC1.out);rintro e w' ⟨rfl,⟨nd,rfl⟩⟩;(try first|exact ⟨rfl,_,World.drewN_drewN _ _ _⟩|exact ⟨rfl,_,Eq.trans (World.drewN_drewN _ _ _) (congrArg (World.drewN _) (Nat.add_assoc _ _ _))⟩)))
 repeat (go_quiet (first|(go_at_call 67;(with_reducible refine (field_sum.calls k _ _ l1 z00 _ ?side1 ?side2 A3.out).mono ?_);(case side1 => repeat (first|exact HR1.out|(with_reducible refine Kd.C_alloc ?_ _)|(with_reducible refine Kd.C_drewN ?_ _)|(with_reducible refine Kd.C_drew ?_)));(case side2 => exact HC1.out);rintro e w' ⟨rfl,⟨nd,rfl⟩⟩;(try first|exact ⟨rfl,_,World.drewN_drewN _ _ _⟩|exact ⟨rfl,_,Eq.trans (World.drewN_drewN _ _ _) (congrArg (World.drewN _) (Nat.add_assoc _ _ _))⟩)));try go_wp2_with (first|(go_at_call 67;(with_reducible refine (field_sum.calls k _ _ l1 z00 _ ?side1 ?side2 A3.out).mono ?_);(case side1 => repeat (first|exact HR1.out|(with_reducible refine Kd.C_alloc ?_ _)|(with_reducible refine Kd.C_drewN ?_ _)|(with_reducible refine Kd.C_drew ?_)));(case side2 => exact HC1.out);rintro e w' ⟨rfl,⟨nd,rfl⟩⟩;(try first|exact ⟨rfl,_,World.drewN_drewN _ _ _⟩|exact ⟨rfl,_,Eq.trans (World.drewN_drewN _ _ _) (congrArg (World.drewN _) (Nat.add_assoc _ _ _))⟩))))
 go_ret3
 exact ⟨_,by first|rfl|(simp [errW_none,errW_some] <;> rfl)|(simp [*,errW_none,errW_some] <;> rfl),by first|exact Kd.R_nil _ _ _ _ _|exact Kd.N_nil _ _ _ _ _|exact Kd.V_nil _ _ _ _ _|exact Kd.Q_nil _ _ _ _ _|exact Kd.S_nil _ _ _ _ _,by repeat first|(with_reducible first|exact HB.out|apply yA|apply yN|apply yD)|exact HB.out⟩

end Go.Proofs.Ytapicoienpbdfaa.PWatchPlays
