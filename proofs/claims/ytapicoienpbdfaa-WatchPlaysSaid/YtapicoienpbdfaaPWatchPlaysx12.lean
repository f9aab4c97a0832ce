-- Written by a program of this work, after the translation.
import Derived.Test.YtapicoienpbdfaaPWatchPlaysx0
import Derived.Test.YtapicoienpbdfaaPWatchPlaysx10
import Derived.Test.YtapicoienpbdfaaPWatchPlaysx11
namespace Go.Proofs.Ytapicoienpbdfaa.PWatchPlays
open Go.RowKit Go.Proofs.YtapicoienpbdfaaW.PrintWords Go.Proofs.YtapicoienpbdfaaW.PrintLast Go.Proofs.YtapicoienpbdfaaW.PrintMore
attribute [local go_sem] max2_int min2_int max_two min_two max_three min_three max_four min_four   -- for this text's walks alone
set_option linter.unusedVariables false
set_option linter.unusedSimpArgs false

/-! ### carouselref06_Open: function 41 -/
def carouselref06_Open.j0 : Nat → ByteArray → Int → Bool → Int → Int → Int → Int → Int → Option (Bool × Int × Int × Int × ByteArray × Int)
  | 0, _, _, _, _, _, _, _, _ => none
  | k + 1, x7, x10, x45, x312000, x312001, x312002, x312003, x312004 => if x45 = true then (some (false, 0, 0, 0, (⟨#[]⟩ : ByteArray), 3)) else (if (Int.tmod x312003 8) = 0 then (some (false, 0, 0, 0, (⟨#[]⟩ : ByteArray), 4)) else (if x10 = 0 then (some (false, 0, 0, 0, (⟨#[]⟩ : ByteArray), 4)) else ((carouselref01_Get.f k x7 0 4).bind fun t317 => (if 6 ≤ 54 then (if 54 ≤ (x7.size : Int) then (some (decide (x312003 ≥ 128), Int.tmod x312003 8, (t317) % 4294967296, IntKind.u16.wrap (x10), x7.extract 6 54, 0)) else (none)) else (none)))))
def carouselref06_Open.f (k : Nat) (a0 : ByteArray) (a1 : Int) : Option (Bool × Int × Int × Int × ByteArray × Int) := (carouselref04_Open.f k a0).bind fun bt304 => (if bt304.2.2.2.2.2.2 = 0 then ((carouselref04_Is.f bt304.1 bt304.2.1 bt304.2.2.1 bt304.2.2.2.1 bt304.2.2.2.2.1 a1 0 1 70).bind fun t312 => (if t312 = 0 then ((carouselref01_Get.f k bt304.2.2.2.2.2.1 4 2).bind fun t313 => (if t313 ≥ 8192 then (carouselref06_Open.j0 k bt304.2.2.2.2.2.1 t313 true bt304.1 bt304.2.1 bt304.2.2.1 bt304.2.2.2.1 bt304.2.2.2.2.1) else (if (Int.tmod (IntKind.u8.wrap (Int.tdiv bt304.2.2.2.1 8)) 16) = 0 then (if 54 ≤ (bt304.2.2.2.2.2.1.size : Int) then (if 16 ≤ 281474976710656 then (carouselref06_Open.j0 k bt304.2.2.2.2.2.1 t313 ((bt304.2.2.2.2.2.1.extract 54 bt304.2.2.2.2.2.1.size).toList != (strOfNums (List.replicate 16 0)).toList) bt304.1 bt304.2.1 bt304.2.2.1 bt304.2.2.2.1 bt304.2.2.2.2.1) else (none)) else (none)) else (carouselref06_Open.j0 k bt304.2.2.2.2.2.1 t313 true bt304.1 bt304.2.1 bt304.2.2.1 bt304.2.2.2.1 bt304.2.2.2.2.1)))) else (some (false, 0, 0, 0, (⟨#[]⟩ : ByteArray), t312)))) else (some (false, 0, 0, 0, (⟨#[]⟩ : ByteArray), bt304.2.2.2.2.2.2)))
theorem carouselref06_Open.mono_l : ∀ k, (∀ y0 y1 y2 y3 y4 y5 y6 y7, LeO (carouselref06_Open.j0 k y0 y1 y2 y3 y4 y5 y6 y7) (carouselref06_Open.j0 (k + 1) y0 y1 y2 y3 y4 y5 y6 y7))
 | 0 => fun _ _ _ _ _ _ _ _ r h => by simp [carouselref06_Open.j0] at h
 | k + 1 => by
  have ih0 := carouselref06_Open.mono_l k
  intro y0 y1 y2 y3 y4 y5 y6 y7
  unfold carouselref06_Open.j0
  repeat' first
  | (with_reducible exact ih0 _ _ _ _ _ _ _ _)
  | (with_reducible exact carouselref01_Get.mono _ _ _ _)
  | (with_reducible exact carouselref04_Open.mono _ _)
  | (with_reducible exact LeO.refl _)
  | (with_reducible exact LeO.none _)
  | (with_reducible refine LeO.ite ?_ ?_)
  | (with_reducible refine LeO.bind ?_ (fun _ => ?_))
  | exact ih0 _ _ _ _ _ _ _ _
  | exact carouselref01_Get.mono _ _ _ _
  | exact carouselref04_Open.mono _ _
  | exact LeO.none _
  | refine LeO.ite ?_ ?_
  | refine LeO.bind ?_ (fun _ => ?_)
theorem carouselref06_Open.mono : ∀ a0 a1 k, LeO (carouselref06_Open.f k a0 a1) (carouselref06_Open.f (k + 1) a0 a1) := by
 intro a0 a1 k;have ih0:=carouselref06_Open.mono_l k;unfold carouselref06_Open.f
 repeat' first
  | (with_reducible exact ih0 _ _ _ _ _ _ _ _)
  | (with_reducible exact carouselref01_Get.mono _ _ _ _)
  | (with_reducible exact carouselref04_Open.mono _ _)
  | (with_reducible exact LeO.refl _)
  | (with_reducible exact LeO.none _)
  | (with_reducible refine LeO.ite ?_ ?_)
  | (with_reducible refine LeO.bind ?_ (fun _ => ?_))
  | exact ih0 _ _ _ _ _ _ _ _
  | exact carouselref01_Get.mono _ _ _ _
  | exact carouselref04_Open.mono _ _
  | exact LeO.none _
  | refine LeO.ite ?_ ?_
  | refine LeO.bind ?_ (fun _ => ?_)
def carouselref06_Open.T8 : Bool × List (List Nat × List Nat) := (true, [([], []), ([0], [0]), ([1], [1]), ([2], [2]), ([3, 2], [2, 3]), ([4, 2], [2, 4]), ([5, 2], [2, 5]), ([6, 2], [2, 6]), ([2, 7], [2, 7]), ([8, 2], [8]), ([9], [9]), ([10, 9], [9, 10]), ([9], [9]), ([12, 9], [9, 12]), ([11, 13, 9], [9, 11, 13]), ([9, 14], [9, 14])])
def carouselref06_Open.B8 : List Nat := [0, 1, 3, 7, 15, 31, 63, 127, 255, 511, 1023, 2047, 1023, 5119, 16383, 32767]
theorem carouselref06_Open.tab8 : rtab .any (opsOf Try.f41 8) = carouselref06_Open.T8 := by kernel_rfl
theorem carouselref06_Open.bits8 : waitsOk carouselref06_Open.T8.2 carouselref06_Open.B8 = true := by kernel_rfl
def carouselref06_Open.T12 : Bool × List (List Nat × List Nat) := (true, [([], []), ([0], [0]), ([1], [1]), ([], []), ([3], [3]), ([4], [4]), ([], []), ([6], [6]), ([7], [7]), ([], []), ([9], [9]), ([], []), ([11], [11]), ([2, 5, 8, 10, 12], [2, 5, 8, 10, 12]), ([13, 7, 0, 1, 2, 3, 4, 5, 6, 7, 8, 9, 10, 11, 12, 13], [13]), ([14, 0, 1, 2, 3, 4, 5, 6, 7, 8, 9, 10, 11, 12, 13, 14], [])])
def carouselref06_Open.B12 : List Nat := [0, 1, 3, 0, 8, 24, 0, 64, 192, 0, 512, 0, 2048, 8191, 16383, 32767]
theorem carouselref06_Open.tab12 : rtab .any (opsOf Try.f41 12) = carouselref06_Open.T12 := by kernel_rfl
theorem carouselref06_Open.bits12 : waitsOk carouselref06_Open.T12.2 carouselref06_Open.B12 = true := by kernel_rfl
set_option maxHeartbeats 8000000 in
set_option maxRecDepth 100000 in
theorem carouselref06_Open.calls (k : Nat) (a0 : ByteArray) (a1 : Int) (r1 : Bool) (r2 : Int) (r3 : Int) (r4 : Int) (r5 : ByteArray) (r6 : Int) (w : World) (h : carouselref06_Open.f k a0 a1 = some (r1, r2, r3, r4, r5, r6)) :
  Calls Try.prog 41 #[.string a0, .int .u8 a1] w fun e w' => e = .returned (.tuple #[.agg #[.bool r1, .int .u8 r2, .int .u32 r3, .int .u16 r4, .string r5], .int .i64 r6]) ∧ Below w.heap.size w w' := by
 have hu79:=Try.underlying79;have hu103:=Try.underlying103;have HB:=zM (Below.refl w.heap.size w);have H : ((carouselref04_Open.f k a0).bind fun bt304 => (if bt304.2.2.2.2.2.2 = 0 then ((carouselref04_Is.f bt304.1 bt304.2.1 bt304.2.2.1 bt304.2.2.2.1 bt304.2.2.2.2.1 a1 0 1 70).bind fun z0f => (if z0f = 0 then ((carouselref01_Get.f k bt304.2.2.2.2.2.1 4 2).bind fun z0d => (if z0d ≥ 8192 then (carouselref06_Open.j0 k bt304.2.2.2.2.2.1 z0d true bt304.1 bt304.2.1 bt304.2.2.1 bt304.2.2.2.1 bt304.2.2.2.2.1) else (if (Int.tmod (IntKind.u8.wrap (Int.tdiv bt304.2.2.2.1 8)) 16) = 0 then (if 54 ≤ (bt304.2.2.2.2.2.1.size : Int) then (if 16 ≤ 281474976710656 then (carouselref06_Open.j0 k bt304.2.2.2.2.2.1 z0d ((bt304.2.2.2.2.2.1.extract 54 bt304.2.2.2.2.2.1.size).toList != (strOfNums (List.replicate 16 0)).toList) bt304.1 bt304.2.1 bt304.2.2.1 bt304.2.2.2.1 bt304.2.2.2.2.1) else (none)) else (none)) else (carouselref06_Open.j0 k bt304.2.2.2.2.2.1 z0d true bt304.1 bt304.2.1 bt304.2.2.1 bt304.2.2.2.1 bt304.2.2.2.2.1)))) else (some (false,0,0,0,(⟨#[]⟩ : ByteArray),z0f)))) else (some (false,0,0,0,(⟨#[]⟩ : ByteArray),bt304.2.2.2.2.2.2)))) = some (r1,r2,r3,r4,r5,r6):=h;clear h;replace H:=Option.bind_eq_some_iff.mp H;obtain ⟨⟨z09,z0a,z0b,z07,z0e,z0c,z0g⟩,A30,H⟩:=H;try dsimp only at H
 have A3:=zM A30;clear A30;by_cases c4 : z0g = 0
 ·
  rw [if_pos c4] at H;have c4b0 : (z0g == 0) = true:=beq_iff_eq.mpr c4;have c4b1 : (z0g != 0) = false:=bne_eq_false_iff_eq.mpr c4;clear c4;replace H:=Option.bind_eq_some_iff.mp H;obtain ⟨z0f,A50,H⟩:=H;try dsimp only at H
  have A5:=zM A50;clear A50;by_cases c6 : z0f = 0
  ·
   rw [if_pos c6] at H;have c6b0 : (z0f == 0) = true:=beq_iff_eq.mpr c6;have c6b1 : (z0f != 0) = false:=bne_eq_false_iff_eq.mpr c6;clear c6;replace H:=Option.bind_eq_some_iff.mp H;obtain ⟨z0d,A70,H⟩:=H;try dsimp only at H
   have A7:=zM A70;clear A70;have HC8:=zM H;clear H;go_enter Try.func41,Try.ntmps41
   go_upto_region 8 with (first|((with_reducible refine gate_dst (N:=4) rfl ?_);(try (refine gate_guard (by rfl) ?_;dsimp only));refine box_event ?hg (N:=4) ?hd (cs:=#[.bool false,.int .u8 0,.int .u32 0,.int .u16 0,.string (⟨#[]⟩ : ByteArray)]) (t:=79) ?hr ?_;(case hd => rfl);(case hg => rfl);(case hr => first|(go_simp;done)|(go_simp;rfl));intro z04 hg w9 hbox hb;have n0_:=zM (yT (by repeat first|(with_reducible first|exact HB.out|apply yA|apply yN|apply yD)|exact HB.out) hb);have n1_:=zM (hbox);have n2_:=zM ((by rw [hg];exact (yZ (by repeat first|(with_reducible first|exact HB.out|apply yA|apply yN|apply yD)|exact HB.out)) : w.heap.size ≤ z04));have n3_:=zM ((by rw [hg];exact (yZ (by repeat first|(with_reducible first|exact HB.out|apply yA|apply yN|apply yD)|exact HB.out)) : w.heap.size ≤ z04));clear HB;have HB:=n0_;have z02:=n1_;have z0s:=n2_;have z06:=n3_;clear n0_ n1_ n2_ n3_;clear hb hbox hg)|((with_reducible refine gate_callee (f:=58) rfl ?_);refine goesL_ (some 13) rfl rfl Try.func58 (by kernel_rfl) rfl #[.string a0] rfl (by (try simp only [List.map_toArray,List.map_cons,List.map_nil]);first|done|rfl|(simp only [List.length_drop,List.length_take];rfl)) ?_;(with_reducible refine (carouselref04_Open.calls k a0 z09 z0a z0b z07 z0e z0c z0g _ A3.out).mono ?_);rintro e w10 ⟨rfl,hb⟩;refine ⟨_,rfl,?_⟩;have n0_:=zM (zB (g:=z04) (o:=.cells #[.bool false,.int .u8 0,.int .u32 0,.int .u16 0,.string (⟨#[]⟩ : ByteArray)] 79 (0,0)) (by (with_reducible repeat first|apply zN|apply zD|apply zA);exact z02.out) hb);have n1_:=zM (yT (by repeat first|(with_reducible first|exact HB.out|apply yA|apply yN|apply yD|refine yS ?_ z06.out)|exact HB.out) hb);clear z02;clear HB;have z02:=n0_;have HB:=n1_;clear n0_ n1_;(try clear hb);(try clear hb2);(try clear hk);(try clear hi))|((with_reducible refine gate_dst (N:=6) rfl ?_);(try (refine gate_guard (by rfl) ?_;dsimp only));refine box_event ?hg (N:=6) ?hd (cs:=#[.int .u8 0,.int .u8 0,.int .u8 0,.int .u8 0,.int .u8 0]) (t:=103) ?hr ?_;(case hd => rfl);(case hg => rfl);(case hr => first|(go_simp;done)|(go_simp;rfl));intro z05 hg w11 hbox hb;have n0_:=zM (zB (g:=z04) (o:=.cells #[.bool false,.int .u8 0,.int .u32 0,.int .u16 0,.string (⟨#[]⟩ : ByteArray)] 79 (0,0)) (by (with_reducible repeat first|apply zN|apply zD|apply zA);exact z02.out) hb);have n1_:=zM (yT (by repeat first|(with_reducible first|exact HB.out|apply yA|apply yN|apply yD|refine yS ?_ z06.out)|exact HB.out) hb);have n2_:=zM (hbox);have n3_:=zM ((by rw [hg];exact (yZ (by repeat first|(with_reducible first|exact HB.out|apply yA|apply yN|apply yD|refine yS ?_ z06.out)|exact HB.out)) : w.heap.size ≤ z05));have n4_:=zM ((by rw [hg];exact (yZ (by repeat first|(with_reducible first|exact HB.out|apply yA|apply yN|apply yD|refine yS ?_ z06.out)|exact HB.out)) : w.heap.size ≤ z05));have n5_:=zM ((by rw [hg];exact Nat.ne_of_lt (blk_lt (g:=z04) (o:=.cells #[.bool false,.int .u8 0,.int .u32 0,.int .u16 0,.string (⟨#[]⟩ : ByteArray)] 79 (0,0)) (by (with_reducible repeat first|apply zN|apply zD|apply zA);exact z02.out)) : z04 ≠ z05));have n6_:=zM ((by rw [hg];exact Nat.ne_of_gt (blk_lt (g:=z04) (o:=.cells #[.bool false,.int .u8 0,.int .u32 0,.int .u16 0,.string (⟨#[]⟩ : ByteArray)] 79 (0,0)) (by (with_reducible repeat first|apply zN|apply zD|apply zA);exact z02.out)) : z05 ≠ z04));clear z02;clear HB;have z02:=n0_;have HB:=n1_;have z03:=n2_;have z0t:=n3_;have z08:=n4_;have z01:=n5_;have z00:=n6_;clear n0_ n1_ n2_ n3_ n4_ n5_ n6_;clear hb hbox hg;have z3n:=z00.out;have z3o:=z01.out;obtain ⟨z0h,z0i,z0j,z0k,z0l,z0m,z0n,z0o,z0p,z0q⟩:=kc5 z03.out)|((with_reducible refine gate_callee (f:=59) rfl ?_);refine goesL_ (some 23) rfl rfl Try.func59 (by kernel_rfl) rfl #[.agg #[.int .u8 z09,.int .u8 z0a,.int .u8 z0b,.int .u8 z07,.int .u8 z0e],.int .u8 a1,.int .u8 0,.int .u8 1,.int .u8 70] rfl (by (try simp only [List.map_toArray,List.map_cons,List.map_nil]);first|done|rfl|(simp only [List.length_drop,List.length_take];rfl)) ?_;(with_reducible refine (carouselref04_Is.calls z09 z0a z0b z07 z0e a1 0 1 70 z0f _ A5.out).mono ?_);rintro e w14 ⟨rfl,hb⟩;refine ⟨_,rfl,?_⟩;have n0_:=zM (zB (g:=z04) (o:=.cells #[.bool false,.int .u8 0,.int .u32 0,.int .u16 0,.string (⟨#[]⟩ : ByteArray)] 79 (0,0)) (by (with_reducible repeat first|apply zN|apply zD|apply zA);refine zG ?_ z01.out _;(with_reducible repeat first|apply zN|apply zD|apply zA);refine zG ?_ z01.out _;(with_reducible repeat first|apply zN|apply zD|apply zA);refine zG ?_ z01.out _;(with_reducible repeat first|apply zN|apply zD|apply zA);refine zG ?_ z01.out _;(with_reducible repeat first|apply zN|apply zD|apply zA);refine zG ?_ z01.out _;(with_reducible repeat first|apply zN|apply zD|apply zA);exact z02.out) hb);have n1_:=zM (zB (g:=z05) (o:=.cells #[.int .u8 z09,.int .u8 z0a,.int .u8 z0b,.int .u8 z07,.int .u8 z0e] 103 (0,0)) (by (with_reducible repeat first|apply zN|apply zD|apply zA);refine zP (cs:=#[.int .u8 z09,.int .u8 z0a,.int .u8 z0b,.int .u8 z07,.int .u8 0]) ?_ 4 _ rfl;(with_reducible repeat first|apply zN|apply zD|apply zA);refine zP (cs:=#[.int .u8 z09,.int .u8 z0a,.int .u8 z0b,.int .u8 0,.int .u8 0]) ?_ 3 _ rfl;(with_reducible repeat first|apply zN|apply zD|apply zA);refine zP (cs:=#[.int .u8 z09,.int .u8 z0a,.int .u8 0,.int .u8 0,.int .u8 0]) ?_ 2 _ rfl;(with_reducible repeat first|apply zN|apply zD|apply zA);refine zP (cs:=#[.int .u8 z09,.int .u8 0,.int .u8 0,.int .u8 0,.int .u8 0]) ?_ 1 _ rfl;(with_reducible repeat first|apply zN|apply zD|apply zA);refine zP (cs:=#[.int .u8 0,.int .u8 0,.int .u8 0,.int .u8 0,.int .u8 0]) ?_ 0 _ rfl;(with_reducible repeat first|apply zN|apply zD|apply zA);exact z03.out) hb);have n2_:=zM (yT (by repeat (first|(with_reducible first|exact HB.out|apply yA|apply yN|apply yD|refine yS ?_ z06.out|refine yS ?_ z08.out)|exact HB.out)) hb);clear z02;clear z03;clear HB;have z02:=n0_;have z03:=n1_;have HB:=n2_;clear n0_ n1_ n2_;(try clear hb);(try clear hb2);(try clear hk);(try clear hi))|((with_reducible refine gate_callee (f:=60) rfl ?_);refine goesL_ (some 29) rfl rfl Try.func60 (by kernel_rfl) rfl #[.string z0c,.int .i64 4,.int .i64 2] rfl (by (try simp only [List.map_toArray,List.map_cons,List.map_nil]);first|done|rfl|(simp only [List.length_drop,List.length_take];rfl)) ?_;(with_reducible refine (carouselref01_Get.calls k z0c 4 2 z0d _ A7.out).mono ?_);rintro e w15 ⟨rfl,hb⟩;refine ⟨_,rfl,?_⟩;have n0_:=zM (zB (g:=z04) (o:=.cells #[.bool false,.int .u8 0,.int .u32 0,.int .u16 0,.string (⟨#[]⟩ : ByteArray)] 79 (0,0)) (by (with_reducible repeat first|apply zN|apply zD|apply zA);exact z02.out) hb);have n1_:=zM (zB (g:=z05) (o:=.cells #[.int .u8 z09,.int .u8 z0a,.int .u8 z0b,.int .u8 z07,.int .u8 z0e] 103 (0,0)) (by (with_reducible repeat first|apply zN|apply zD|apply zA);exact z03.out) hb);have n2_:=zM (yT (by repeat (first|(with_reducible first|exact HB.out|apply yA|apply yN|apply yD|refine yS ?_ z06.out|refine yS ?_ z08.out)|exact HB.out)) hb);clear z02;clear z03;clear HB;have z02:=n0_;have z03:=n1_;have HB:=n2_;clear n0_ n1_ n2_;(try clear hb);(try clear hb2);(try clear hk);(try clear hi)))
   (try simp only [Act.put,sA,sB,sC])
   go_cut [45] (fun v45 wc => ∃ (kq : Nat) (x45_7 : Bool),v45 = .bool x45_7 ∧ Aside0 (carouselref06_Open.j0 kq z0c z0d x45_7 z09 z0a z0b z07 z0e = some (r1,r2,r3,r4,r5,r6)) ∧ Aside0 (kq ≤ k) ∧ Aside0 (wc.heap[z04]? = some (.cells #[.bool false,.int .u8 0,.int .u32 0,.int .u16 0,.string (⟨#[]⟩ : ByteArray)] 79 (0,0))) ∧ Aside0 (wc.heap[z05]? = some (.cells #[.int .u8 z09,.int .u8 z0a,.int .u8 z0b,.int .u8 z07,.int .u8 z0e] 103 (0,0))) ∧ Aside0 (Below w.heap.size w wc))
   case first =>
    have H:=HC8.out;clear HC8;by_cases c16 : z0d ≥ 8192
    ·
     rw [if_pos c16] at H;have c16b0 : decide (8192 ≤ z0d) = true:=dT c16;clear c16;(first|rw [c16b0]|(simp only [i64_w,i32_w];rw [c16b0])|skip)
     have H':=zM H;clear H;try go_wp2
     have n0_:=zM (zD z02.out);have n1_:=zM (zD z03.out);have n2_:=zM (yD HB.out);clear z02;clear z03;clear HB;have z02:=n0_;have z03:=n1_;have HB:=n2_;clear n0_ n1_ n2_;refine start_ (n:=16) (S:=fun w' => True) (ds:=[]) #[false,false,false,false,false,false,false,false,false,false,false,false,false,false,false,false] (by kernel_rfl) rfl rfl trivial (fun hHeld => ?_);refine with_tabW carouselref06_Open.tab8 carouselref06_Open.bits8 (fun HT_ HW_ => ?_);generalize w15.drew = w17 at z02 z03 HB hHeld ⊢
     refine pure_ (i:=0) (N:=some 30) (v:=?_) (a':=?_) #[true,false,false,false,false,false,false,false,false,false,false,false,false,false,false,false] rfl rfl (any_of HT_.out (by kernel_rfl)) (fun _ _ _ h => h) (Or.inl ⟨by rfl,?_⟩) ?_ ?_;rotate_left
     ·
      intro w';go_simp;with_reducible rfl
     rotate_left
     ·
      simp only [Act.put,sA,sB,sC,i64_w,i32_w];rfl
     refine pure_ (i:=1) (N:=some 31) (v:=?_) (a':=?_) #[true,true,false,false,false,false,false,false,false,false,false,false,false,false,false,false] rfl rfl (any_of HT_.out (by kernel_rfl)) (fun _ _ _ h => h) (Or.inl ⟨by rfl,?_⟩) ?_ ?_;rotate_left
     ·
      intro w';go_simp;with_reducible rfl
     rotate_left
     ·
      simp only [Act.put,sA,sB,sC,i64_w,i32_w];rfl
     refine pure_ (i:=2) (N:=some 32) (v:=?_) (a':=?_) #[true,true,true,false,false,false,false,false,false,false,false,false,false,false,false,false] rfl rfl (any_of HT_.out (by kernel_rfl)) (fun _ _ _ h => h) (Or.inl ⟨by rfl,?_⟩) ?_ ?_;rotate_left
     ·
      intro w';go_simp;with_reducible rfl
     rotate_left
     ·
      simp only [Act.put,sA,sB,sC,i64_w,i32_w];rfl
     refine pure_ (i:=3) (N:=some 33) (v:=undef) (a':=?_) #[true,true,true,true,false,false,false,false,false,false,false,false,false,false,false,false] rfl rfl (any_of HT_.out (by kernel_rfl)) (fun _ _ _ h => h) (Or.inr ⟨by rfl,rfl⟩) ?_ ?_;rotate_left
     ·
      simp only [Act.put,sA,sB,sC,i64_w,i32_w];rfl
     refine pure_ (i:=4) (N:=some 34) (v:=undef) (a':=?_) #[true,true,true,true,true,false,false,false,false,false,false,false,false,false,false,false] rfl rfl (any_of HT_.out (by kernel_rfl)) (fun _ _ _ h => h) (Or.inr ⟨by rfl,rfl⟩) ?_ ?_;rotate_left
     ·
      simp only [Act.put,sA,sB,sC,i64_w,i32_w];rfl
     refine pure_ (i:=5) (N:=some 35) (v:=undef) (a':=?_) #[true,true,true,true,true,true,false,false,false,false,false,false,false,false,false,false] rfl rfl (any_of HT_.out (by kernel_rfl)) (fun _ _ _ h => h) (Or.inr ⟨by rfl,rfl⟩) ?_ ?_;rotate_left
     ·
      simp only [Act.put,sA,sB,sC,i64_w,i32_w];rfl
     refine pure_ (i:=6) (N:=some 36) (v:=undef) (a':=?_) #[true,true,true,true,true,true,true,false,false,false,false,false,false,false,false,false] rfl rfl (any_of HT_.out (by kernel_rfl)) (fun _ _ _ h => h) (Or.inr ⟨by rfl,rfl⟩) ?_ ?_;rotate_left
     ·
      simp only [Act.put,sA,sB,sC,i64_w,i32_w];rfl
     refine pure_ (i:=7) (N:=some 37) (v:=undef) (a':=?_) #[true,true,true,true,true,true,true,true,false,false,false,false,false,false,false,false] rfl rfl (any_of HT_.out (by kernel_rfl)) (fun _ _ _ h => h) (Or.inr ⟨by rfl,rfl⟩) ?_ ?_;rotate_left
     ·
      simp only [Act.put,sA,sB,sC,i64_w,i32_w];rfl
     refine pure_ (i:=8) (N:=some 38) (v:=?_) (a':=?_) #[true,true,true,true,true,true,true,true,true,false,false,false,false,false,false,false] rfl rfl (any_of HT_.out (by kernel_rfl)) (fun _ _ _ h => h) (Or.inl ⟨by rfl,?_⟩) ?_ ?_;rotate_left
     ·
      intro w';go_simp;with_reducible rfl
     rotate_left
     ·
      simp only [Act.put,sA,sB,sC,i64_w,i32_w];rfl
     refine pure_ (i:=9) (N:=some 39) (v:=?_) (a':=?_) #[true,true,true,true,true,true,true,true,true,true,false,false,false,false,false,false] rfl rfl (any_of HT_.out (by kernel_rfl)) (fun _ _ _ h => h) (Or.inl ⟨by rfl,?_⟩) ?_ ?_;rotate_left
     ·
      intro w';go_simp;with_reducible rfl
     rotate_left
     ·
      simp only [Act.put,sA,sB,sC,i64_w,i32_w];rfl
     refine pure_ (i:=10) (N:=some 40) (v:=undef) (a':=?_) #[true,true,true,true,true,true,true,true,true,true,true,false,false,false,false,false] rfl rfl (any_of HT_.out (by kernel_rfl)) (fun _ _ _ h => h) (Or.inr ⟨by rfl,rfl⟩) ?_ ?_;rotate_left
     ·
      simp only [Act.put,sA,sB,sC,i64_w,i32_w];rfl
     refine pure_ (i:=11) (N:=some 41) (v:=undef) (a':=?_) #[true,true,true,true,true,true,true,true,true,true,true,true,false,false,false,false] rfl rfl (any_of HT_.out (by kernel_rfl)) (fun _ _ _ h => h) (Or.inr ⟨by rfl,rfl⟩) ?_ ?_;rotate_left
     ·
      simp only [Act.put,sA,sB,sC,i64_w,i32_w];rfl
     refine pure_ (i:=12) (N:=some 42) (v:=undef) (a':=?_) #[true,true,true,true,true,true,true,true,true,true,true,true,true,false,false,false] rfl rfl (any_of HT_.out (by kernel_rfl)) (fun _ _ _ h => h) (Or.inr ⟨by rfl,rfl⟩) ?_ ?_;rotate_left
     ·
      simp only [Act.put,sA,sB,sC,i64_w,i32_w];rfl
     refine pure_ (i:=13) (N:=some 43) (v:=undef) (a':=?_) #[true,true,true,true,true,true,true,true,true,true,true,true,true,true,false,false] rfl rfl (any_of HT_.out (by kernel_rfl)) (fun _ _ _ h => h) (Or.inr ⟨by rfl,rfl⟩) ?_ ?_;rotate_left
     ·
      simp only [Act.put,sA,sB,sC,i64_w,i32_w];rfl
     refine pure_ (i:=14) (N:=some 44) (v:=undef) (a':=?_) #[true,true,true,true,true,true,true,true,true,true,true,true,true,true,true,false] rfl rfl (any_of HT_.out (by kernel_rfl)) (fun _ _ _ h => h) (Or.inr ⟨by rfl,rfl⟩) ?_ ?_;rotate_left
     ·
      simp only [Act.put,sA,sB,sC,i64_w,i32_w];rfl
     refine pure_ (i:=15) (N:=some 45) (v:=?_) (a':=?_) #[true,true,true,true,true,true,true,true,true,true,true,true,true,true,true,true] rfl rfl (any_of HT_.out (by kernel_rfl)) (fun _ _ _ h => h) (Or.inl ⟨by rfl,?_⟩) ?_ ?_;rotate_left
     ·
      intro w';go_simp;with_reducible rfl
     rotate_left
     ·
      simp only [Act.put,sA,sB,sC,i64_w,i32_w];rfl
     refine done_ (done_of HT_.out (by kernel_rfl)) ?_;try go_wp2
     go_meet
     case rel => exact ⟨_,(true),(by first|rfl|(simp;done)|(simp [*];done)),H',⟨by first|omega|exact Nat.le_refl _⟩,⟨by (with_reducible repeat first|apply zN|apply zD|apply zA);exact z02.out⟩,⟨by (with_reducible repeat first|apply zN|apply zD|apply zA);exact z03.out⟩,⟨by repeat (first|(with_reducible first|exact HB.out|apply yA|apply yN|apply yD|refine yS ?_ z06.out|refine yS ?_ z08.out)|exact HB.out)⟩⟩
    rw [if_neg c16] at H;have c16b0 : decide (8192 ≤ z0d) = false:=dF c16;clear c16;(first|rw [c16b0]|(simp only [i64_w,i32_w];rw [c16b0])|skip)
    by_cases c18 : (Int.tmod (IntKind.u8.wrap (Int.tdiv z07 8)) 16) = 0
    ·
     rw [if_pos c18] at H;have c18b0 : ((Int.tmod (IntKind.u8.wrap (Int.tdiv z07 8)) 16) == 0) = true:=beq_iff_eq.mpr c18;have c18b1 : ((Int.tmod (IntKind.u8.wrap (Int.tdiv z07 8)) 16) != 0) = false:=bne_eq_false_iff_eq.mpr c18;clear c18;by_cases c19 : 54 ≤ (z0c.size : Int)
     ·
      rw [if_pos c19] at H;have c19b0:=eq_true c19;have c19b1 : decide (54 ≤ (z0c.size : Int)) = true:=dT c19;clear c19;by_cases c20 : 16 ≤ 281474976710656
      ·
       rw [if_pos c20] at H;have c20b0:=eq_true c20;have c20b1 : decide (16 ≤ 281474976710656) = true:=dT c20;clear c20;obtain ⟨y314,hy314⟩ : ∃ y_ : List Int,y_ = (List.replicate 16 0):=⟨_,rfl⟩
       replace H : (carouselref06_Open.j0 k z0c z0d ((z0c.extract 54 z0c.size).toList != (strOfNums y314).toList) z09 z0a z0b z07 z0e) = some (r1,r2,r3,r4,r5,r6):=by first|(rw [hy314];with_reducible exact H)|(have H2_:=(Option.bind_some _ _).symm.trans H;rw [hy314];with_reducible exact H2_)|(have H2_:=(Option.bind_some _ _).symm.trans H;with_reducible exact H2_)|with_reducible exact H|(rw [hy314];exact H)|exact H
       have Ny314:=zM hy314;clear hy314;have H':=zM H;clear H;try go_wp2
       have n0_:=zM (zD z02.out);have n1_:=zM (zD z03.out);have n2_:=zM (yD HB.out);clear z02;clear z03;clear HB;have z02:=n0_;have z03:=n1_;have HB:=n2_;clear n0_ n1_ n2_;refine start_ (n:=16) (S:=fun w' => w'.cell? ⟨z05,0,none⟩ = some (.int .u8 z09) ∧ w'.cell? ⟨z05,1,none⟩ = some (.int .u8 z0a) ∧ w'.cell? ⟨z05,2,none⟩ = some (.int .u8 z0b) ∧ w'.cell? ⟨z05,3,none⟩ = some (.int .u8 z07) ∧ w'.cell? ⟨z05,4,none⟩ = some (.int .u8 z0e)) (ds:=[]) #[false,false,false,false,false,false,false,false,false,false,false,false,false,false,false,false] (by kernel_rfl) rfl rfl ⟨(zC z03.out 0).trans rfl,(zC z03.out 1).trans rfl,(zC z03.out 2).trans rfl,(zC z03.out 3).trans rfl,(zC z03.out 4).trans rfl⟩ (fun hHeld => ?_);refine with_tabW carouselref06_Open.tab8 carouselref06_Open.bits8 (fun HT_ HW_ => ?_);generalize w15.drew = w21 at z02 z03 HB hHeld ⊢
       refine pure_ (i:=0) (N:=some 30) (v:=?_) (a':=?_) #[true,false,false,false,false,false,false,false,false,false,false,false,false,false,false,false] rfl rfl (any_of HT_.out (by kernel_rfl)) (fun _ _ _ h => h) (Or.inl ⟨by rfl,?_⟩) ?_ ?_;rotate_left
       ·
        intro w';go_simp;with_reducible rfl
       rotate_left
       ·
        simp only [Act.put,sA,sB,sC,i64_w,i32_w];rfl
       refine pure_ (i:=1) (N:=some 31) (v:=?_) (a':=?_) #[true,true,false,false,false,false,false,false,false,false,false,false,false,false,false,false] rfl rfl (any_of HT_.out (by kernel_rfl)) (fun _ _ _ h => h) (Or.inl ⟨by rfl,?_⟩) ?_ ?_;rotate_left
       ·
        intro w';go_simp;with_reducible rfl
       rotate_left
       ·
        simp only [Act.put,sA,sB,sC,i64_w,i32_w];rfl
       refine pure_ (i:=2) (N:=some 32) (v:=?_) (a':=?_) #[true,true,true,false,false,false,false,false,false,false,false,false,false,false,false,false] rfl rfl (any_of HT_.out (by kernel_rfl)) (fun _ _ _ h => h) (Or.inl ⟨by rfl,?_⟩) ?_ ?_;rotate_left
       ·
        intro w';go_simp;with_reducible rfl
       rotate_left
       ·
        simp only [Act.put,sA,sB,sC,i64_w,i32_w];rfl
       refine pure_ (i:=3) (N:=some 33) (v:=?_) (a':=?_) #[true,true,true,true,false,false,false,false,false,false,false,false,false,false,false,false] rfl rfl (any_of HT_.out (by kernel_rfl)) (fun _ _ _ h => h) (Or.inl ⟨by rfl,?_⟩) ?_ ?_;rotate_left
       ·
        intro w';go_simp;with_reducible rfl
       rotate_left
       ·
        simp only [Act.put,sA,sB,sC,i64_w,i32_w];rfl
       refine take_ (i:=4) (N:=some 34) (v:=?_) (a':=?_) #[true,true,true,true,true,false,false,false,false,false,false,false,false,false,false,false] rfl rfl (take_ofW HT_.out HW_.out (by kernel_rfl)) (fun _ _ _ h => h) (Or.inl ⟨by rfl,?_⟩) hHeld ?_ ?_;rotate_left
       ·
        rintro w' ⟨s0,s1,s2,s3,s4⟩
        go_simp;with_reducible rfl
       rotate_left
       ·
        simp only [Act.put,sA,sB,sC,i64_w,i32_w];rfl
       refine pure_ (i:=5) (N:=some 35) (v:=?_) (a':=?_) #[true,true,true,true,true,true,false,false,false,false,false,false,false,false,false,false] rfl rfl (any_of HT_.out (by kernel_rfl)) (fun _ _ _ h => h) (Or.inl ⟨by rfl,?_⟩) ?_ ?_;rotate_left
       ·
        intro w';go_simp;with_reducible rfl
       rotate_left
       ·
        simp only [Act.put,sA,sB,sC,i64_w,i32_w];rfl
       refine pure_ (i:=6) (N:=some 36) (v:=?_) (a':=?_) #[true,true,true,true,true,true,true,false,false,false,false,false,false,false,false,false] rfl rfl (any_of HT_.out (by kernel_rfl)) (fun _ _ _ h => h) (Or.inl ⟨by rfl,?_⟩) ?_ ?_;rotate_left
       ·
        intro w';go_simp;with_reducible rfl
       rotate_left
       ·
        simp only [Act.put,sA,sB,sC,i64_w,i32_w];rfl
       refine pure_ (i:=7) (N:=some 37) (v:=?_) (a':=?_) #[true,true,true,true,true,true,true,true,false,false,false,false,false,false,false,false] rfl rfl (any_of HT_.out (by kernel_rfl)) (fun _ _ _ h => h) (Or.inl ⟨by rfl,?_⟩) ?_ ?_;rotate_left
       ·
        intro w';go_simp;with_reducible rfl
       rotate_left
       ·
        simp only [Act.put,sA,sB,sC,i64_w,i32_w];rfl
       refine pure_ (i:=8) (N:=some 38) (v:=?_) (a':=?_) #[true,true,true,true,true,true,true,true,true,false,false,false,false,false,false,false] rfl rfl (any_of HT_.out (by kernel_rfl)) (fun _ _ _ h => h) (Or.inl ⟨by rfl,?_⟩) ?_ ?_;rotate_left
       ·
        intro w';go_simp;with_reducible rfl
       rotate_left
       ·
        simp only [Act.put,sA,sB,sC,i64_w,i32_w];rfl
       refine pure_ (i:=9) (N:=some 39) (v:=?_) (a':=?_) #[true,true,true,true,true,true,true,true,true,true,false,false,false,false,false,false] rfl rfl (any_of HT_.out (by kernel_rfl)) (fun _ _ _ h => h) (Or.inl ⟨by rfl,?_⟩) ?_ ?_;rotate_left
       ·
        intro w';go_simp;with_reducible rfl
       rotate_left
       ·
        simp only [Act.put,sA,sB,sC,i64_w,i32_w];rfl
       refine pure_ (i:=10) (N:=some 40) (v:=?_) (a':=?_) #[true,true,true,true,true,true,true,true,true,true,true,false,false,false,false,false] rfl rfl (any_of HT_.out (by kernel_rfl)) (fun _ _ _ h => h) (Or.inl ⟨by rfl,?_⟩) ?_ ?_;rotate_left
       ·
        intro w';go_simp;with_reducible rfl
       rotate_left
       ·
        simp only [Act.put,sA,sB,sC,i64_w,i32_w];rfl
       refine pure_ (i:=11) (N:=some 41) (v:=?_) (a':=?_) #[true,true,true,true,true,true,true,true,true,true,true,true,false,false,false,false] rfl rfl (any_of HT_.out (by kernel_rfl)) (fun _ _ _ h => h) (Or.inl ⟨by rfl,?_⟩) ?_ ?_;rotate_left
       ·
        intro w';go_simp;with_reducible rfl
       rotate_left
       ·
        simp only [Act.put,sA,sB,sC,i64_w,i32_w];rfl
       refine one_ (i:=12) (N:=some 42) #[true,true,true,true,true,true,true,true,true,true,true,true,true,false,false,false] rfl rfl (one_of HT_.out (by kernel_rfl)) (by decide) (fun K hK => ?_);refine Kd.R_make_step (Kd.int .u8) _ 5 (by rfl) (N:=42) rfl 73 _ _ rfl 16 rfl rfl Try.underlying73 (.int .u8 0) 1 info5 rfl (by decide) (by omega) 0 (ok:=fun _ => True) (okp:=fun _ => True) rfl (fun _ hk => hk) trivial (by omega) (by omega) (Below.refl _ _) (Nat.le_refl _) ?_;intro v315 w22 ho23 hb hg_ hnew_;clear hg_ hnew_;(first|rw [← Ny314.out] at ho23|(simp only [Int.reduceToNat] at ho23;rw [← Ny314.out] at ho23))
       have n0_:=zM (Kd.R_lower ho23 (yZ (by repeat (first|(with_reducible first|exact HB.out|apply yA|apply yN|apply yD|refine yS ?_ z06.out|refine yS ?_ z08.out)|exact HB.out))));have n1_:=zM (zB (g:=z04) (o:=.cells #[.bool false,.int .u8 0,.int .u32 0,.int .u16 0,.string (⟨#[]⟩ : ByteArray)] 79 (0,0)) (by (with_reducible repeat first|apply zN|apply zD|apply zA);exact z02.out) hb);have n2_:=zM (zB (g:=z05) (o:=.cells #[.int .u8 z09,.int .u8 z0a,.int .u8 z0b,.int .u8 z07,.int .u8 z0e] 103 (0,0)) (by (with_reducible repeat first|apply zN|apply zD|apply zA);exact z03.out) hb);have n3_:=zM (yT (by repeat (first|(with_reducible first|exact HB.out|apply yA|apply yN|apply yD|refine yS ?_ z06.out|refine yS ?_ z08.out)|exact HB.out)) hb);clear z02;clear z03;clear HB;have z0u:=n0_;have z02:=n1_;have z03:=n2_;have HB:=n3_;clear n0_ n1_ n2_ n3_;clear hb ho23;refine hK.out _ _ ⟨(zC z03.out 0).trans rfl,(zC z03.out 1).trans rfl,(zC z03.out 2).trans rfl,(zC z03.out 3).trans rfl,(zC z03.out 4).trans rfl⟩ (fun hHeld => ?_);clear hK K;refine norm_ (a':=?_) ?_ ?_;rotate_left
       ·
        show Act.put _ (some 42) _ = _
        simp only [Act.put,sA,sB,sC,i64_w,i32_w];rfl
       refine one_ (i:=13) (N:=some 43) #[true,true,true,true,true,true,true,true,true,true,true,true,true,true,false,false] rfl rfl (one_of HT_.out (by kernel_rfl)) (by decide) (fun K hK => ?_);have hcv24:=own_string (P:=Try.prog) Try.underlying73 Try.underlying5 Try.underlying9 (Kd.own_of_R z0u.out);refine value_ (w1:=?_) (v:=?_) (by rfl) rfl ?_ ?_;rotate_left 2
       ·
        go_simp;constructor
        ·
         rfl
        rfl
       clear hcv24;refine hK.out _ _ ⟨(zC z03.out 0).trans rfl,(zC z03.out 1).trans rfl,(zC z03.out 2).trans rfl,(zC z03.out 3).trans rfl,(zC z03.out 4).trans rfl⟩ (fun hHeld => ?_);clear hK K;refine norm_ (a':=?_) ?_ ?_;rotate_left
       ·
        show Act.put _ (some 43) _ = _
        simp only [Act.put,sA,sB,sC,i64_w,i32_w];rfl
       refine pure_ (i:=14) (N:=some 44) (v:=?_) (a':=?_) #[true,true,true,true,true,true,true,true,true,true,true,true,true,true,true,false] rfl rfl (any_of HT_.out (by kernel_rfl)) (fun _ _ _ h => h) (Or.inl ⟨by rfl,?_⟩) ?_ ?_;rotate_left
       ·
        intro w';go_simp;with_reducible rfl
       rotate_left
       ·
        simp only [Act.put,sA,sB,sC,i64_w,i32_w];rfl
       refine pure_ (i:=15) (N:=some 45) (v:=?_) (a':=?_) #[true,true,true,true,true,true,true,true,true,true,true,true,true,true,true,true] rfl rfl (any_of HT_.out (by kernel_rfl)) (fun _ _ _ h => h) (Or.inl ⟨by rfl,?_⟩) ?_ ?_;rotate_left
       ·
        intro w';go_simp;with_reducible rfl
       rotate_left
       ·
        simp only [Act.put,sA,sB,sC,i64_w,i32_w];rfl
       refine done_ (done_of HT_.out (by kernel_rfl)) ?_;try go_wp2
       go_meet
       case rel => exact ⟨_,(((z0c.extract 54 z0c.size).toList != (strOfNums y314).toList)),(by first|rfl|(simp;done)|(simp [*];done)),H',⟨by first|omega|exact Nat.le_refl _⟩,⟨by (with_reducible repeat first|apply zN|apply zD|apply zA);exact z02.out⟩,⟨by (with_reducible repeat first|apply zN|apply zD|apply zA);exact z03.out⟩,⟨by repeat (first|(with_reducible first|exact HB.out|apply yA|apply yN|apply yD|refine yS ?_ z06.out|refine yS ?_ z08.out)|exact HB.out)⟩⟩
      rw [if_neg c20] at H;exact absurd H (by simp)
     rw [if_neg c19] at H;exact absurd H (by simp)
    rw [if_neg c18] at H;have c18b0 : ((Int.tmod (IntKind.u8.wrap (Int.tdiv z07 8)) 16) == 0) = false:=beq_eq_false_iff_ne.mpr c18;have c18b1 : ((Int.tmod (IntKind.u8.wrap (Int.tdiv z07 8)) 16) != 0) = true:=bne_iff_ne.mpr c18;have H':=zM H;clear H;try go_wp2
    have n0_:=zM (zD z02.out);have n1_:=zM (zD z03.out);have n2_:=zM (yD HB.out);clear z02;clear z03;clear HB;have z02:=n0_;have z03:=n1_;have HB:=n2_;clear n0_ n1_ n2_;refine start_ (n:=16) (S:=fun w' => w'.cell? ⟨z05,0,none⟩ = some (.int .u8 z09) ∧ w'.cell? ⟨z05,1,none⟩ = some (.int .u8 z0a) ∧ w'.cell? ⟨z05,2,none⟩ = some (.int .u8 z0b) ∧ w'.cell? ⟨z05,3,none⟩ = some (.int .u8 z07) ∧ w'.cell? ⟨z05,4,none⟩ = some (.int .u8 z0e)) (ds:=[]) #[false,false,false,false,false,false,false,false,false,false,false,false,false,false,false,false] (by kernel_rfl) rfl rfl ⟨(zC z03.out 0).trans rfl,(zC z03.out 1).trans rfl,(zC z03.out 2).trans rfl,(zC z03.out 3).trans rfl,(zC z03.out 4).trans rfl⟩ (fun hHeld => ?_);refine with_tabW carouselref06_Open.tab8 carouselref06_Open.bits8 (fun HT_ HW_ => ?_);generalize w15.drew = w25 at z02 z03 HB hHeld ⊢
    refine pure_ (i:=0) (N:=some 30) (v:=?_) (a':=?_) #[true,false,false,false,false,false,false,false,false,false,false,false,false,false,false,false] rfl rfl (any_of HT_.out (by kernel_rfl)) (fun _ _ _ h => h) (Or.inl ⟨by rfl,?_⟩) ?_ ?_;rotate_left
    ·
     intro w';go_simp;with_reducible rfl
    rotate_left
    ·
     simp only [Act.put,sA,sB,sC,i64_w,i32_w];rfl
    refine pure_ (i:=1) (N:=some 31) (v:=?_) (a':=?_) #[true,true,false,false,false,false,false,false,false,false,false,false,false,false,false,false] rfl rfl (any_of HT_.out (by kernel_rfl)) (fun _ _ _ h => h) (Or.inl ⟨by rfl,?_⟩) ?_ ?_;rotate_left
    ·
     intro w';go_simp;with_reducible rfl
    rotate_left
    ·
     simp only [Act.put,sA,sB,sC,i64_w,i32_w];rfl
    refine pure_ (i:=2) (N:=some 32) (v:=?_) (a':=?_) #[true,true,true,false,false,false,false,false,false,false,false,false,false,false,false,false] rfl rfl (any_of HT_.out (by kernel_rfl)) (fun _ _ _ h => h) (Or.inl ⟨by rfl,?_⟩) ?_ ?_;rotate_left
    ·
     intro w';go_simp;with_reducible rfl
    rotate_left
    ·
     simp only [Act.put,sA,sB,sC,i64_w,i32_w];rfl
    refine pure_ (i:=3) (N:=some 33) (v:=?_) (a':=?_) #[true,true,true,true,false,false,false,false,false,false,false,false,false,false,false,false] rfl rfl (any_of HT_.out (by kernel_rfl)) (fun _ _ _ h => h) (Or.inl ⟨by rfl,?_⟩) ?_ ?_;rotate_left
    ·
     intro w';go_simp;with_reducible rfl
    rotate_left
    ·
     simp only [Act.put,sA,sB,sC,i64_w,i32_w];rfl
    refine take_ (i:=4) (N:=some 34) (v:=?_) (a':=?_) #[true,true,true,true,true,false,false,false,false,false,false,false,false,false,false,false] rfl rfl (take_ofW HT_.out HW_.out (by kernel_rfl)) (fun _ _ _ h => h) (Or.inl ⟨by rfl,?_⟩) hHeld ?_ ?_;rotate_left
    ·
     rintro w' ⟨s0,s1,s2,s3,s4⟩
     go_simp;with_reducible rfl
    rotate_left
    ·
     simp only [Act.put,sA,sB,sC,i64_w,i32_w];rfl
    refine pure_ (i:=5) (N:=some 35) (v:=?_) (a':=?_) #[true,true,true,true,true,true,false,false,false,false,false,false,false,false,false,false] rfl rfl (any_of HT_.out (by kernel_rfl)) (fun _ _ _ h => h) (Or.inl ⟨by rfl,?_⟩) ?_ ?_;rotate_left
    ·
     intro w';go_simp;with_reducible rfl
    rotate_left
    ·
     simp only [Act.put,sA,sB,sC,i64_w,i32_w];rfl
    refine pure_ (i:=6) (N:=some 36) (v:=?_) (a':=?_) #[true,true,true,true,true,true,true,false,false,false,false,false,false,false,false,false] rfl rfl (any_of HT_.out (by kernel_rfl)) (fun _ _ _ h => h) (Or.inl ⟨by rfl,?_⟩) ?_ ?_;rotate_left
    ·
     intro w';go_simp;with_reducible rfl
    rotate_left
    ·
     simp only [Act.put,sA,sB,sC,i64_w,i32_w];rfl
    refine pure_ (i:=7) (N:=some 37) (v:=?_) (a':=?_) #[true,true,true,true,true,true,true,true,false,false,false,false,false,false,false,false] rfl rfl (any_of HT_.out (by kernel_rfl)) (fun _ _ _ h => h) (Or.inl ⟨by rfl,?_⟩) ?_ ?_;rotate_left
    ·
     intro w';go_simp;with_reducible rfl
    rotate_left
    ·
     simp only [Act.put,sA,sB,sC,i64_w,i32_w];rfl
    refine pure_ (i:=8) (N:=some 38) (v:=?_) (a':=?_) #[true,true,true,true,true,true,true,true,true,false,false,false,false,false,false,false] rfl rfl (any_of HT_.out (by kernel_rfl)) (fun _ _ _ h => h) (Or.inl ⟨by rfl,?_⟩) ?_ ?_;rotate_left
    ·
     intro w';go_simp;with_reducible rfl
    rotate_left
    ·
     simp only [Act.put,sA,sB,sC,i64_w,i32_w];rfl
    refine pure_ (i:=9) (N:=some 39) (v:=?_) (a':=?_) #[true,true,true,true,true,true,true,true,true,true,false,false,false,false,false,false] rfl rfl (any_of HT_.out (by kernel_rfl)) (fun _ _ _ h => h) (Or.inl ⟨by rfl,?_⟩) ?_ ?_;rotate_left
    ·
     intro w';go_simp;with_reducible rfl
    rotate_left
    ·
     simp only [Act.put,sA,sB,sC,i64_w,i32_w];rfl
    refine pure_ (i:=10) (N:=some 40) (v:=undef) (a':=?_) #[true,true,true,true,true,true,true,true,true,true,true,false,false,false,false,false] rfl rfl (any_of HT_.out (by kernel_rfl)) (fun _ _ _ h => h) (Or.inr ⟨by rfl,rfl⟩) ?_ ?_;rotate_left
    ·
     simp only [Act.put,sA,sB,sC,i64_w,i32_w];rfl
    refine pure_ (i:=11) (N:=some 41) (v:=undef) (a':=?_) #[true,true,true,true,true,true,true,true,true,true,true,true,false,false,false,false] rfl rfl (any_of HT_.out (by kernel_rfl)) (fun _ _ _ h => h) (Or.inr ⟨by rfl,rfl⟩) ?_ ?_;rotate_left
    ·
     simp only [Act.put,sA,sB,sC,i64_w,i32_w];rfl
    refine pure_ (i:=12) (N:=some 42) (v:=undef) (a':=?_) #[true,true,true,true,true,true,true,true,true,true,true,true,true,false,false,false] rfl rfl (any_of HT_.out (by kernel_rfl)) (fun _ _ _ h => h) (Or.inr ⟨by rfl,rfl⟩) ?_ ?_;rotate_left
    ·
     simp only [Act.put,sA,sB,sC,i64_w,i32_w];rfl
    refine pure_ (i:=13) (N:=some 43) (v:=undef) (a':=?_) #[true,true,true,true,true,true,true,true,true,true,true,true,true,true,false,false] rfl rfl (any_of HT_.out (by kernel_rfl)) (fun _ _ _ h => h) (Or.inr ⟨by rfl,rfl⟩) ?_ ?_;rotate_left
    ·
     simp only [Act.put,sA,sB,sC,i64_w,i32_w];rfl
    refine pure_ (i:=14) (N:=some 44) (v:=undef) (a':=?_) #[true,true,true,true,true,true,true,true,true,true,true,true,true,true,true,false] rfl rfl (any_of HT_.out (by kernel_rfl)) (fun _ _ _ h => h) (Or.inr ⟨by rfl,rfl⟩) ?_ ?_;rotate_left
    ·
     simp only [Act.put,sA,sB,sC,i64_w,i32_w];rfl
    refine pure_ (i:=15) (N:=some 45) (v:=?_) (a':=?_) #[true,true,true,true,true,true,true,true,true,true,true,true,true,true,true,true] rfl rfl (any_of HT_.out (by kernel_rfl)) (fun _ _ _ h => h) (Or.inl ⟨by rfl,?_⟩) ?_ ?_;rotate_left
    ·
     intro w';go_simp;with_reducible rfl
    rotate_left
    ·
     simp only [Act.put,sA,sB,sC,i64_w,i32_w];rfl
    refine done_ (done_of HT_.out (by kernel_rfl)) ?_;try go_wp2
    go_meet
    case rel => exact ⟨_,(true),(by first|rfl|(simp;done)|(simp [*];done)),H',⟨by first|omega|exact Nat.le_refl _⟩,⟨by (with_reducible repeat first|apply zN|apply zD|apply zA);exact z02.out⟩,⟨by (with_reducible repeat first|apply zN|apply zD|apply zA);exact z03.out⟩,⟨by repeat (first|(with_reducible first|exact HB.out|apply yA|apply yN|apply yD|refine yS ?_ z06.out|refine yS ?_ z08.out)|exact HB.out)⟩⟩
   case rest =>
    clear HC8;try clear c1
    try clear c2
    try clear p2
    try clear hcv2
    try clear c4
    try clear c4b0
    try clear c4b1
    try clear c5
    try clear c6
    try clear c6b0
    try clear c6b1
    try clear c12
    try clear c16
    try clear c16b0
    try clear c18
    try clear c18b0
    try clear c18b1
    try clear c19
    try clear c19b0
    try clear c19b1
    try clear c20
    try clear c20b0
    try clear c20b1
    try clear hcv24
    try clear z0h
    try clear z0i
    try clear z0j
    try clear z0k
    try clear z0l
    try clear z0m
    try clear z0n
    try clear z0o
    try clear z0p
    try clear z0q
    obtain ⟨kq,x45_7,rfl,HA,HJ7,z02,z03,HB⟩:=hcut;cases kq with
   | zero => exact absurd HA.out (by simp [carouselref06_Open.j0])
   | succ kj7 =>
     have H:=HA.out;clear HA;simp only [carouselref06_Open.j0] at H;by_cases c26 : x45_7 = true
     ·
      subst c26;have H1 : (some (false,0,0,0,(⟨#[]⟩ : ByteArray),3)) = some (r1,r2,r3,r4,r5,r6):=by rw [if_pos rfl] at H;exact H
      clear H;have H:=H1;clear H1;simp only [Option.some.injEq,Prod.mk.injEq] at H;obtain ⟨rfl,rfl,rfl,rfl,rfl,rfl⟩:=H;have z3p:=z01.out;have z3q:=z00.out;obtain ⟨z0v,z0w,z0x,z0y,z0z,z10,z11,z12,z13,z14⟩:=kc5 z02.out;go_wp2;refine zE (results_ct rfl _ _ z04 79 #[.bool false,.int .u8 0,.int .u32 0,.int .u16 0,.string (⟨#[]⟩ : ByteArray)] (0,0) _ rfl (by (with_reducible repeat first|apply zN|apply zD|apply zA);refine zP (cs:=#[.bool false,.int .u8 0,.int .u32 0,.int .u16 0,.string (⟨#[]⟩ : ByteArray)]) ?_ 4 _ rfl;(with_reducible repeat first|apply zN|apply zD|apply zA);refine zP (cs:=#[.bool false,.int .u8 0,.int .u32 0,.int .u16 0,.string (⟨#[]⟩ : ByteArray)]) ?_ 3 _ rfl;(with_reducible repeat first|apply zN|apply zD|apply zA);refine zP (cs:=#[.bool false,.int .u8 0,.int .u32 0,.int .u16 0,.string (⟨#[]⟩ : ByteArray)]) ?_ 2 _ rfl;(with_reducible repeat first|apply zN|apply zD|apply zA);refine zP (cs:=#[.bool false,.int .u8 0,.int .u32 0,.int .u16 0,.string (⟨#[]⟩ : ByteArray)]) ?_ 1 _ rfl;(with_reducible repeat first|apply zN|apply zD|apply zA);refine zP (cs:=#[.bool false,.int .u8 0,.int .u32 0,.int .u16 0,.string (⟨#[]⟩ : ByteArray)]) ?_ 0 _ rfl;(with_reducible repeat first|apply zN|apply zD|apply zA);exact z02.out) Try.underlying79 rfl (by kernel_rfl)) rfl ?_;exact ⟨by first|rfl|(simp [errW_none,errW_some] <;> rfl)|(simp [*,errW_none,errW_some] <;> rfl),by repeat (first|(with_reducible first|exact HB.out|apply yA|apply yN|apply yD|refine yS ?_ z06.out|refine yS ?_ z08.out)|exact HB.out)⟩
     replace c26:=Bool.eq_false_iff.mpr c26;subst c26;have H1 : (if (Int.tmod z07 8) = 0 then (some (false,0,0,0,(⟨#[]⟩ : ByteArray),4)) else (if z0d = 0 then (some (false,0,0,0,(⟨#[]⟩ : ByteArray),4)) else ((carouselref01_Get.f kj7 z0c 0 4).bind fun z0r => (if 6 ≤ 54 then (if 54 ≤ (z0c.size : Int) then (some (decide (z07 ≥ 128),Int.tmod z07 8,(z0r) % 4294967296,IntKind.u16.wrap (z0d),z0c.extract 6 54,0)) else (none)) else (none))))) = some (r1,r2,r3,r4,r5,r6):=by rw [if_neg (show ¬ (false = true) by decide)] at H;exact H
     clear H;have H:=H1;clear H1;by_cases c29 : (Int.tmod z07 8) = 0
     ·
      rw [if_pos c29] at H;have c29b0 : ((Int.tmod z07 8) == 0) = true:=beq_iff_eq.mpr c29;have c29b1 : ((Int.tmod z07 8) != 0) = false:=bne_eq_false_iff_eq.mpr c29;clear c29;simp only [Option.some.injEq,Prod.mk.injEq] at H;obtain ⟨rfl,rfl,rfl,rfl,rfl,rfl⟩:=H;have z3r:=z00.out;have z3s:=z01.out;obtain ⟨z15,z16,z17,z18,z19,z1a,z1b,z1c,z1d,z1e⟩:=kc5 z03.out;obtain ⟨z1f,z1g,z1h,z1i,z1j,z1k,z1l,z1m,z1n,z1o⟩:=kc5 z02.out;go_wp2;refine zE (results_ct rfl _ _ z04 79 #[.bool false,.int .u8 0,.int .u32 0,.int .u16 0,.string (⟨#[]⟩ : ByteArray)] (0,0) _ rfl (by (with_reducible repeat first|apply zN|apply zD|apply zA);refine zP (cs:=#[.bool false,.int .u8 0,.int .u32 0,.int .u16 0,.string (⟨#[]⟩ : ByteArray)]) ?_ 4 _ rfl;(with_reducible repeat first|apply zN|apply zD|apply zA);refine zP (cs:=#[.bool false,.int .u8 0,.int .u32 0,.int .u16 0,.string (⟨#[]⟩ : ByteArray)]) ?_ 3 _ rfl;(with_reducible repeat first|apply zN|apply zD|apply zA);refine zP (cs:=#[.bool false,.int .u8 0,.int .u32 0,.int .u16 0,.string (⟨#[]⟩ : ByteArray)]) ?_ 2 _ rfl;(with_reducible repeat first|apply zN|apply zD|apply zA);refine zP (cs:=#[.bool false,.int .u8 0,.int .u32 0,.int .u16 0,.string (⟨#[]⟩ : ByteArray)]) ?_ 1 _ rfl;(with_reducible repeat first|apply zN|apply zD|apply zA);refine zP (cs:=#[.bool false,.int .u8 0,.int .u32 0,.int .u16 0,.string (⟨#[]⟩ : ByteArray)]) ?_ 0 _ rfl;(with_reducible repeat first|apply zN|apply zD|apply zA);exact z02.out) Try.underlying79 rfl (by kernel_rfl)) rfl ?_;exact ⟨by first|rfl|(simp [errW_none,errW_some] <;> rfl)|(simp [*,errW_none,errW_some] <;> rfl),by repeat (first|(with_reducible first|exact HB.out|apply yA|apply yN|apply yD|refine yS ?_ z06.out|refine yS ?_ z08.out)|exact HB.out)⟩
     rw [if_neg c29] at H;have c29b0 : ((Int.tmod z07 8) == 0) = false:=beq_eq_false_iff_ne.mpr c29;have c29b1 : ((Int.tmod z07 8) != 0) = true:=bne_iff_ne.mpr c29;by_cases c33 : z0d = 0
     ·
      rw [if_pos c33] at H;have c33b0 : (z0d == 0) = true:=beq_iff_eq.mpr c33;have c33b1 : (z0d != 0) = false:=bne_eq_false_iff_eq.mpr c33;clear c33;simp only [Option.some.injEq,Prod.mk.injEq] at H;obtain ⟨rfl,rfl,rfl,rfl,rfl,rfl⟩:=H;have z3t:=z00.out;have z3u:=z01.out;obtain ⟨z1p,z1q,z1r,z1s,z1t,z1u,z1v,z1w,z1x,z1y⟩:=kc5 z03.out;obtain ⟨z1z,z20,z21,z22,z23,z24,z25,z26,z27,z28⟩:=kc5 z02.out;go_wp2;refine zE (results_ct rfl _ _ z04 79 #[.bool false,.int .u8 0,.int .u32 0,.int .u16 0,.string (⟨#[]⟩ : ByteArray)] (0,0) _ rfl (by (with_reducible repeat first|apply zN|apply zD|apply zA);refine zP (cs:=#[.bool false,.int .u8 0,.int .u32 0,.int .u16 0,.string (⟨#[]⟩ : ByteArray)]) ?_ 4 _ rfl;(with_reducible repeat first|apply zN|apply zD|apply zA);refine zP (cs:=#[.bool false,.int .u8 0,.int .u32 0,.int .u16 0,.string (⟨#[]⟩ : ByteArray)]) ?_ 3 _ rfl;(with_reducible repeat first|apply zN|apply zD|apply zA);refine zP (cs:=#[.bool false,.int .u8 0,.int .u32 0,.int .u16 0,.string (⟨#[]⟩ : ByteArray)]) ?_ 2 _ rfl;(with_reducible repeat first|apply zN|apply zD|apply zA);refine zP (cs:=#[.bool false,.int .u8 0,.int .u32 0,.int .u16 0,.string (⟨#[]⟩ : ByteArray)]) ?_ 1 _ rfl;(with_reducible repeat first|apply zN|apply zD|apply zA);refine zP (cs:=#[.bool false,.int .u8 0,.int .u32 0,.int .u16 0,.string (⟨#[]⟩ : ByteArray)]) ?_ 0 _ rfl;(with_reducible repeat first|apply zN|apply zD|apply zA);exact z02.out) Try.underlying79 rfl (by kernel_rfl)) rfl ?_;exact ⟨by first|rfl|(simp [errW_none,errW_some] <;> rfl)|(simp [*,errW_none,errW_some] <;> rfl),by repeat (first|(with_reducible first|exact HB.out|apply yA|apply yN|apply yD|refine yS ?_ z06.out|refine yS ?_ z08.out)|exact HB.out)⟩
     rw [if_neg c33] at H;have c33b0 : (z0d == 0) = false:=beq_eq_false_iff_ne.mpr c33;have c33b1 : (z0d != 0) = true:=bne_iff_ne.mpr c33;replace H:=Option.bind_eq_some_iff.mp H;obtain ⟨z0r,A370,H⟩:=H;try dsimp only at H
     have A37:=zM A370;clear A370;by_cases c38 : 6 ≤ 54
     ·
      rw [if_pos c38] at H;have c38b0:=eq_true c38;have c38b1 : decide (6 ≤ 54) = true:=dT c38;clear c38;by_cases c39 : 54 ≤ (z0c.size : Int)
      ·
       rw [if_pos c39] at H;have c39b0:=eq_true c39;have c39b1 : decide (54 ≤ (z0c.size : Int)) = true:=dT c39;clear c39;simp only [Option.some.injEq,Prod.mk.injEq] at H;obtain ⟨rfl,rfl,rfl,rfl,rfl,rfl⟩:=H;have z3v:=z00.out;have z3w:=z01.out;obtain ⟨z29,z2a,z2b,z2c,z2d,z2e,z2f,z2g,z2h,z2i⟩:=kc5 z03.out;try go_wp2
       have n0_:=zM (zD z02.out);have n1_:=zM (zD z03.out);have n2_:=zM (yD HB.out);clear z02;clear z03;clear HB;have z02:=n0_;have z03:=n1_;have HB:=n2_;clear n0_ n1_ n2_;refine start_ (n:=16) (S:=fun w' => w'.cell? ⟨z05,0,none⟩ = some (.int .u8 z09) ∧ w'.cell? ⟨z05,1,none⟩ = some (.int .u8 z0a) ∧ w'.cell? ⟨z05,2,none⟩ = some (.int .u8 z0b) ∧ w'.cell? ⟨z05,3,none⟩ = some (.int .u8 z07) ∧ w'.cell? ⟨z05,4,none⟩ = some (.int .u8 z0e)) (ds:=[]) #[false,false,false,false,false,false,false,false,false,false,false,false,false,false,false,false] (by kernel_rfl) rfl rfl ⟨(zC z03.out 0).trans rfl,(zC z03.out 1).trans rfl,(zC z03.out 2).trans rfl,(zC z03.out 3).trans rfl,(zC z03.out 4).trans rfl⟩ (fun hHeld => ?_);refine with_tabW carouselref06_Open.tab12 carouselref06_Open.bits12 (fun HT_ HW_ => ?_);generalize wc.drew = w42 at z02 z03 HB hHeld ⊢
       refine pure_ (i:=0) (N:=some 56) (v:=?_) (a':=?_) #[true,false,false,false,false,false,false,false,false,false,false,false,false,false,false,false] rfl rfl (any_of HT_.out (by kernel_rfl)) (fun _ _ _ h => h) (Or.inl ⟨by rfl,?_⟩) ?_ ?_;rotate_left
       ·
        intro w';go_simp;with_reducible rfl
       rotate_left
       ·
        simp only [Act.put,sA,sB,sC,i64_w,i32_w];rfl
       refine pure_ (i:=3) (N:=some 59) (v:=?_) (a':=?_) #[true,false,false,true,false,false,false,false,false,false,false,false,false,false,false,false] rfl rfl (any_of HT_.out (by kernel_rfl)) (fun _ _ _ h => h) (Or.inl ⟨by rfl,?_⟩) ?_ ?_;rotate_left
       ·
        intro w';go_simp;with_reducible rfl
       rotate_left
       ·
        simp only [Act.put,sA,sB,sC,i64_w,i32_w];rfl
       refine pure_ (i:=6) (N:=some 62) (v:=?_) (a':=?_) #[true,false,false,true,false,false,true,false,false,false,false,false,false,false,false,false] rfl rfl (any_of HT_.out (by kernel_rfl)) (fun _ _ _ h => h) (Or.inl ⟨by rfl,?_⟩) ?_ ?_;rotate_left
       ·
        intro w';go_simp;with_reducible rfl
       rotate_left
       ·
        simp only [Act.put,sA,sB,sC,i64_w,i32_w];rfl
       refine pure_ (i:=9) (N:=some 65) (v:=?_) (a':=?_) #[true,false,false,true,false,false,true,false,false,true,false,false,false,false,false,false] rfl rfl (any_of HT_.out (by kernel_rfl)) (fun _ _ _ h => h) (Or.inl ⟨by rfl,?_⟩) ?_ ?_;rotate_left
       ·
        intro w';go_simp;with_reducible rfl
       rotate_left
       ·
        simp only [Act.put,sA,sB,sC,i64_w,i32_w];rfl
       refine pure_ (i:=10) (N:=some 66) (v:=?_) (a':=?_) #[true,false,false,true,false,false,true,false,false,true,true,false,false,false,false,false] rfl rfl (any_of HT_.out (by kernel_rfl)) (fun _ _ _ h => h) (Or.inl ⟨by rfl,?_⟩) ?_ ?_;rotate_left
       ·
        intro w';go_simp;with_reducible rfl
       rotate_left
       ·
        simp only [Act.put,sA,sB,sC,i64_w,i32_w];rfl
       refine pure_ (i:=11) (N:=some 67) (v:=?_) (a':=?_) #[true,false,false,true,false,false,true,false,false,true,true,true,false,false,false,false] rfl rfl (any_of HT_.out (by kernel_rfl)) (fun _ _ _ h => h) (Or.inl ⟨by rfl,?_⟩) ?_ ?_;rotate_left
       ·
        intro w';go_simp;with_reducible rfl
       rotate_left
       ·
        simp only [Act.put,sA,sB,sC,i64_w,i32_w];rfl
       refine pure_ (i:=12) (N:=some 68) (v:=?_) (a':=?_) #[true,false,false,true,false,false,true,false,false,true,true,true,true,false,false,false] rfl rfl (any_of HT_.out (by kernel_rfl)) (fun _ _ _ h => h) (Or.inl ⟨by rfl,?_⟩) ?_ ?_;rotate_left
       ·
        intro w';go_simp;with_reducible rfl
       rotate_left
       ·
        simp only [Act.put,sA,sB,sC,i64_w,i32_w];rfl
       refine take_ (i:=1) (N:=some 57) (v:=?_) (a':=?_) #[true,true,false,true,false,false,true,false,false,true,true,true,true,false,false,false] rfl rfl (take_ofW HT_.out HW_.out (by kernel_rfl)) (fun _ _ _ h => h) (Or.inl ⟨by rfl,?_⟩) hHeld ?_ ?_;rotate_left
       ·
        rintro w' ⟨s0,s1,s2,s3,s4⟩
        go_simp;with_reducible rfl
       rotate_left
       ·
        simp only [Act.put,sA,sB,sC,i64_w,i32_w];rfl
       refine pure_ (i:=2) (N:=some 58) (v:=?_) (a':=?_) #[true,true,true,true,false,false,true,false,false,true,true,true,true,false,false,false] rfl rfl (any_of HT_.out (by kernel_rfl)) (fun _ _ _ h => h) (Or.inl ⟨by rfl,?_⟩) ?_ ?_;rotate_left
       ·
        intro w';go_simp;with_reducible rfl
       rotate_left
       ·
        simp only [Act.put,sA,sB,sC,i64_w,i32_w];rfl
       refine take_ (i:=4) (N:=some 60) (v:=?_) (a':=?_) #[true,true,true,true,true,false,true,false,false,true,true,true,true,false,false,false] rfl rfl (take_ofW HT_.out HW_.out (by kernel_rfl)) (fun _ _ _ h => h) (Or.inl ⟨by rfl,?_⟩) hHeld ?_ ?_;rotate_left
       ·
        rintro w' ⟨s0,s1,s2,s3,s4⟩
        go_simp;with_reducible rfl
       rotate_left
       ·
        simp only [Act.put,sA,sB,sC,i64_w,i32_w];rfl
       refine pure_ (i:=5) (N:=some 61) (v:=?_) (a':=?_) #[true,true,true,true,true,true,true,false,false,true,true,true,true,false,false,false] rfl rfl (any_of HT_.out (by kernel_rfl)) (fun _ _ _ h => h) (Or.inl ⟨by rfl,?_⟩) ?_ ?_;rotate_left
       ·
        intro w';go_simp;with_reducible rfl
       rotate_left
       ·
        simp only [Act.put,sA,sB,sC,i64_w,i32_w];rfl
       refine one_ (i:=7) (N:=some 63) #[true,true,true,true,true,true,true,true,false,true,true,true,true,false,false,false] rfl rfl (one_of HT_.out (by kernel_rfl)) (by decide) (fun K hK => ?_);refine goes_ Try.func60 (by kernel_rfl) rfl #[.string z0c,.int .i64 0,.int .i64 4] (by rfl) rfl rfl (by (try simp only [List.map_toArray,List.map_cons,List.map_nil]);first|done|rfl|(simp only [List.length_drop,List.length_take];rfl)) ?_;with_reducible refine (carouselref01_Get.calls kj7 z0c 0 4 z0r _ A37.out).mono ?_
       rintro e w43 ⟨rfl,hb⟩
       refine ⟨_,rfl,?_⟩;have n0_:=zM (zB (g:=z04) (o:=.cells #[.bool false,.int .u8 0,.int .u32 0,.int .u16 0,.string (⟨#[]⟩ : ByteArray)] 79 (0,0)) (by (with_reducible repeat first|apply zN|apply zD|apply zA);exact z02.out) hb);have n1_:=zM (zB (g:=z05) (o:=.cells #[.int .u8 z09,.int .u8 z0a,.int .u8 z0b,.int .u8 z07,.int .u8 z0e] 103 (0,0)) (by (with_reducible repeat first|apply zN|apply zD|apply zA);exact z03.out) hb);have n2_:=zM (yT (by repeat (first|(with_reducible first|exact HB.out|apply yA|apply yN|apply yD|refine yS ?_ z06.out|refine yS ?_ z08.out)|exact HB.out)) hb);clear z02;clear z03;clear HB;have z02:=n0_;have z03:=n1_;have HB:=n2_;clear n0_ n1_ n2_;(try clear hb)
       (try clear hb2)
       (try clear hk)
       (try clear hi)
       refine hK.out _ _ ⟨(zC z03.out 0).trans rfl,(zC z03.out 1).trans rfl,(zC z03.out 2).trans rfl,(zC z03.out 3).trans rfl,(zC z03.out 4).trans rfl⟩ (fun hHeld => ?_);clear hK K;refine norm_ (a':=?_) ?_ ?_;rotate_left
       ·
        show Act.put _ (some 63) _ = _
        simp only [Act.put,sA,sB,sC,i64_w,i32_w];rfl
       refine pure_ (i:=8) (N:=some 64) (v:=?_) (a':=?_) #[true,true,true,true,true,true,true,true,true,true,true,true,true,false,false,false] rfl rfl (any_of HT_.out (by kernel_rfl)) (fun _ _ _ h => h) (Or.inl ⟨by rfl,?_⟩) ?_ ?_;rotate_left
       ·
        intro w';go_simp;with_reducible rfl
       rotate_left
       ·
        simp only [Act.put,sA,sB,sC,i64_w,i32_w];rfl
       refine pure_ (i:=13) (N:=some 69) (v:=?_) (a':=?_) #[true,true,true,true,true,true,true,true,true,true,true,true,true,true,false,false] rfl rfl (any_of HT_.out (by kernel_rfl)) (fun _ _ _ h => h) (Or.inl ⟨by rfl,?_⟩) ?_ ?_;rotate_left
       ·
        intro w';go_simp;with_reducible rfl
       rotate_left
       ·
        simp only [Act.put,sA,sB,sC,i64_w,i32_w];rfl
       refine one_ (i:=14) (N:=none) #[true,true,true,true,true,true,true,true,true,true,true,true,true,true,true,false] rfl rfl (one_of HT_.out (by kernel_rfl)) (by decide) (fun K hK => ?_);have hs44 : w43.cell? ⟨z04,0,none⟩ = some (.bool false):=(zC z02.out 0).trans rfl;have hfs44:=zF z02.out 0;have hns44_1:=z00.out;have hms44_1:=z01.out;have hs45 : w43.cell? ⟨z04,1,none⟩ = some (.int .u8 0):=(zC z02.out 1).trans rfl;have hfs45:=zF z02.out 1;have hns45_1:=z00.out;have hms45_1:=z01.out;have hs46 : w43.cell? ⟨z04,2,none⟩ = some (.int .u32 0):=(zC z02.out 2).trans rfl;have hfs46:=zF z02.out 2;have hns46_1:=z00.out;have hms46_1:=z01.out;have hs47 : w43.cell? ⟨z04,3,none⟩ = some (.int .u16 0):=(zC z02.out 3).trans rfl;have hfs47:=zF z02.out 3;have hns47_1:=z00.out;have hms47_1:=z01.out;have hs48 : w43.cell? ⟨z04,4,none⟩ = some (.string (⟨#[]⟩ : ByteArray)):=(zC z02.out 4).trans rfl;have hfs48:=zF z02.out 4;have hns48_1:=z00.out;have hms48_1:=z01.out;refine skip_ (w1:=?_) (by rfl) rfl ?_ ?_;rotate_left
       ·
        go_simp;rfl
       refine hK.out _ _ ⟨((cell_far (p:=⟨z04,_,none⟩) z00.out _).trans (((cell_far (p:=⟨z04,_,none⟩) z00.out _).trans (((cell_far (p:=⟨z04,_,none⟩) z00.out _).trans (((cell_far (p:=⟨z04,_,none⟩) z00.out _).trans (((cell_far (p:=⟨z04,_,none⟩) z00.out _).trans (hHeld.1)))))))))),((cell_far (p:=⟨z04,_,none⟩) z00.out _).trans (((cell_far (p:=⟨z04,_,none⟩) z00.out _).trans (((cell_far (p:=⟨z04,_,none⟩) z00.out _).trans (((cell_far (p:=⟨z04,_,none⟩) z00.out _).trans (((cell_far (p:=⟨z04,_,none⟩) z00.out _).trans (hHeld.2.1)))))))))),((cell_far (p:=⟨z04,_,none⟩) z00.out _).trans (((cell_far (p:=⟨z04,_,none⟩) z00.out _).trans (((cell_far (p:=⟨z04,_,none⟩) z00.out _).trans (((cell_far (p:=⟨z04,_,none⟩) z00.out _).trans (((cell_far (p:=⟨z04,_,none⟩) z00.out _).trans (hHeld.2.2.1)))))))))),((cell_far (p:=⟨z04,_,none⟩) z00.out _).trans (((cell_far (p:=⟨z04,_,none⟩) z00.out _).trans (((cell_far (p:=⟨z04,_,none⟩) z00.out _).trans (((cell_far (p:=⟨z04,_,none⟩) z00.out _).trans (((cell_far (p:=⟨z04,_,none⟩) z00.out _).trans (hHeld.2.2.2.1)))))))))),((cell_far (p:=⟨z04,_,none⟩) z00.out _).trans (((cell_far (p:=⟨z04,_,none⟩) z00.out _).trans (((cell_far (p:=⟨z04,_,none⟩) z00.out _).trans (((cell_far (p:=⟨z04,_,none⟩) z00.out _).trans (((cell_far (p:=⟨z04,_,none⟩) z00.out _).trans (hHeld.2.2.2.2))))))))))⟩ (fun hHeld => ?_);clear hK K;refine pure_ (i:=15) (N:=some 5) (v:=?_) (a':=?_) #[true,true,true,true,true,true,true,true,true,true,true,true,true,true,true,true] rfl rfl (any_of HT_.out (by kernel_rfl)) (fun _ _ _ h => h) (Or.inl ⟨by rfl,?_⟩) ?_ ?_;rotate_left
       ·
        intro w';go_simp;with_reducible rfl
       rotate_left
       ·
        simp only [Act.put,sA,sB,sC,i64_w,i32_w];rfl
       refine done_ (done_of HT_.out (by kernel_rfl)) ?_;try go_wp2
       refine zE (results_ct rfl _ _ z04 79 #[.bool (decide (z07 ≥ 128)),.int .u8 (Int.tmod z07 8),.int .u32 ((z0r) % 4294967296),.int .u16 (IntKind.u16.wrap (z0d)),.string (z0c.extract 6 54)] (0,0) _ rfl (by (with_reducible repeat first|apply zN|apply zD|apply zA);refine zP (cs:=#[.bool (decide (z07 ≥ 128)),.int .u8 (Int.tmod z07 8),.int .u32 ((z0r) % 4294967296),.int .u16 (IntKind.u16.wrap (z0d)),.string (⟨#[]⟩ : ByteArray)]) ?_ 4 _ rfl;(with_reducible repeat first|apply zN|apply zD|apply zA);refine zP (cs:=#[.bool (decide (z07 ≥ 128)),.int .u8 (Int.tmod z07 8),.int .u32 ((z0r) % 4294967296),.int .u16 0,.string (⟨#[]⟩ : ByteArray)]) ?_ 3 _ rfl;(with_reducible repeat first|apply zN|apply zD|apply zA);refine zP (cs:=#[.bool (decide (z07 ≥ 128)),.int .u8 (Int.tmod z07 8),.int .u32 0,.int .u16 0,.string (⟨#[]⟩ : ByteArray)]) ?_ 2 _ rfl;(with_reducible repeat first|apply zN|apply zD|apply zA);refine zP (cs:=#[.bool (decide (z07 ≥ 128)),.int .u8 0,.int .u32 0,.int .u16 0,.string (⟨#[]⟩ : ByteArray)]) ?_ 1 _ rfl;(with_reducible repeat first|apply zN|apply zD|apply zA);refine zP (cs:=#[.bool false,.int .u8 0,.int .u32 0,.int .u16 0,.string (⟨#[]⟩ : ByteArray)]) ?_ 0 _ rfl;(with_reducible repeat first|apply zN|apply zD|apply zA);exact z02.out) Try.underlying79 rfl (by kernel_rfl)) rfl ?_;exact ⟨by first|rfl|(simp [errW_none,errW_some] <;> rfl)|(simp [*,errW_none,errW_some] <;> rfl),by repeat (first|(with_reducible first|exact HB.out|apply yA|apply yN|apply yD|refine yS ?_ z06.out|refine yS ?_ z08.out)|exact HB.out)⟩
      rw [if_neg c39] at H;exact absurd H (by simp)
     rw [if_neg c38] at H;exact absurd H (by simp)
  rw [if_neg c6] at H;have c6b0 : (z0f == 0) = false:=beq_eq_false_iff_ne.mpr c6;have c6b1 : (z0f != 0) = true:=bne_iff_ne.mpr c6;simp only [Option.some.injEq,Prod.mk.injEq] at H;obtain ⟨rfl,rfl,rfl,rfl,rfl,rfl⟩:=H;go_enter Try.func41,Try.ntmps41
  go_wp2_with (first|((with_reducible refine gate_dst (N:=4) rfl ?_);(try (refine gate_guard (by rfl) ?_;dsimp only));refine box_event ?hg (N:=4) ?hd (cs:=#[.bool false,.int .u8 0,.int .u32 0,.int .u16 0,.string (⟨#[]⟩ : ByteArray)]) (t:=79) ?hr ?_;(case hd => rfl);(case hg => rfl);(case hr => first|(go_simp;done)|(go_simp;rfl));intro z04 hg w49 hbox hb;have n0_:=zM (yT (by repeat first|(with_reducible first|exact HB.out|apply yA|apply yN|apply yD)|exact HB.out) hb);have n1_:=zM (hbox);have n2_:=zM ((by rw [hg];exact (yZ (by repeat first|(with_reducible first|exact HB.out|apply yA|apply yN|apply yD)|exact HB.out)) : w.heap.size ≤ z04));have n3_:=zM ((by rw [hg];exact (yZ (by repeat first|(with_reducible first|exact HB.out|apply yA|apply yN|apply yD)|exact HB.out)) : w.heap.size ≤ z04));clear HB;have HB:=n0_;have z02:=n1_;have z0s:=n2_;have z06:=n3_;clear n0_ n1_ n2_ n3_;clear hb hbox hg)|((with_reducible refine gate_callee (f:=58) rfl ?_);refine goesL_ (some 13) rfl rfl Try.func58 (by kernel_rfl) rfl #[.string a0] rfl (by (try simp only [List.map_toArray,List.map_cons,List.map_nil]);first|done|rfl|(simp only [List.length_drop,List.length_take];rfl)) ?_;(with_reducible refine (carouselref04_Open.calls k a0 z09 z0a z0b z07 z0e z0c z0g _ A3.out).mono ?_);rintro e w50 ⟨rfl,hb⟩;refine ⟨_,rfl,?_⟩;have n0_:=zM (zB (g:=z04) (o:=.cells #[.bool false,.int .u8 0,.int .u32 0,.int .u16 0,.string (⟨#[]⟩ : ByteArray)] 79 (0,0)) (by (with_reducible repeat first|apply zN|apply zD|apply zA);exact z02.out) hb);have n1_:=zM (yT (by repeat first|(with_reducible first|exact HB.out|apply yA|apply yN|apply yD|refine yS ?_ z06.out)|exact HB.out) hb);clear z02;clear HB;have z02:=n0_;have HB:=n1_;clear n0_ n1_;(try clear hb);(try clear hb2);(try clear hk);(try clear hi))|((with_reducible refine gate_dst (N:=6) rfl ?_);(try (refine gate_guard (by rfl) ?_;dsimp only));refine box_event ?hg (N:=6) ?hd (cs:=#[.int .u8 0,.int .u8 0,.int .u8 0,.int .u8 0,.int .u8 0]) (t:=103) ?hr ?_;(case hd => rfl);(case hg => rfl);(case hr => first|(go_simp;done)|(go_simp;rfl));intro z05 hg w51 hbox hb;have n0_:=zM (zB (g:=z04) (o:=.cells #[.bool false,.int .u8 0,.int .u32 0,.int .u16 0,.string (⟨#[]⟩ : ByteArray)] 79 (0,0)) (by (with_reducible repeat first|apply zN|apply zD|apply zA);exact z02.out) hb);have n1_:=zM (yT (by repeat first|(with_reducible first|exact HB.out|apply yA|apply yN|apply yD|refine yS ?_ z06.out)|exact HB.out) hb);have n2_:=zM (hbox);have n3_:=zM ((by rw [hg];exact (yZ (by repeat first|(with_reducible first|exact HB.out|apply yA|apply yN|apply yD|refine yS ?_ z06.out)|exact HB.out)) : w.heap.size ≤ z05));have n4_:=zM ((by rw [hg];exact (yZ (by repeat first|(with_reducible first|exact HB.out|apply yA|apply yN|apply yD|refine yS ?_ z06.out)|exact HB.out)) : w.heap.size ≤ z05));have n5_:=zM ((by rw [hg];exact Nat.ne_of_lt (blk_lt (g:=z04) (o:=.cells #[.bool false,.int .u8 0,.int .u32 0,.int .u16 0,.string (⟨#[]⟩ : ByteArray)] 79 (0,0)) (by (with_reducible repeat first|apply zN|apply zD|apply zA);exact z02.out)) : z04 ≠ z05));have n6_:=zM ((by rw [hg];exact Nat.ne_of_gt (blk_lt (g:=z04) (o:=.cells #[.bool false,.int .u8 0,.int .u32 0,.int .u16 0,.string (⟨#[]⟩ : ByteArray)] 79 (0,0)) (by (with_reducible repeat first|apply zN|apply zD|apply zA);exact z02.out)) : z05 ≠ z04));clear z02;clear HB;have z02:=n0_;have HB:=n1_;have z03:=n2_;have z0t:=n3_;have z08:=n4_;have z01:=n5_;have z00:=n6_;clear n0_ n1_ n2_ n3_ n4_ n5_ n6_;clear hb hbox hg;have z3x:=z00.out;have z3y:=z01.out;obtain ⟨z2j,z2k,z2l,z2m,z2n,z2o,z2p,z2q,z2r,z2s⟩:=kc5 z03.out)|((with_reducible refine gate_callee (f:=59) rfl ?_);refine goesL_ (some 23) rfl rfl Try.func59 (by kernel_rfl) rfl #[.agg #[.int .u8 z09,.int .u8 z0a,.int .u8 z0b,.int .u8 z07,.int .u8 z0e],.int .u8 a1,.int .u8 0,.int .u8 1,.int .u8 70] rfl (by (try simp only [List.map_toArray,List.map_cons,List.map_nil]);first|done|rfl|(simp only [List.length_drop,List.length_take];rfl)) ?_;(with_reducible refine (carouselref04_Is.calls z09 z0a z0b z07 z0e a1 0 1 70 z0f _ A5.out).mono ?_);rintro e w54 ⟨rfl,hb⟩;refine ⟨_,rfl,?_⟩;have n0_:=zM (zB (g:=z04) (o:=.cells #[.bool false,.int .u8 0,.int .u32 0,.int .u16 0,.string (⟨#[]⟩ : ByteArray)] 79 (0,0)) (by (with_reducible repeat first|apply zN|apply zD|apply zA);refine zG ?_ z01.out _;(with_reducible repeat first|apply zN|apply zD|apply zA);refine zG ?_ z01.out _;(with_reducible repeat first|apply zN|apply zD|apply zA);refine zG ?_ z01.out _;(with_reducible repeat first|apply zN|apply zD|apply zA);refine zG ?_ z01.out _;(with_reducible repeat first|apply zN|apply zD|apply zA);refine zG ?_ z01.out _;(with_reducible repeat first|apply zN|apply zD|apply zA);exact z02.out) hb);have n1_:=zM (zB (g:=z05) (o:=.cells #[.int .u8 z09,.int .u8 z0a,.int .u8 z0b,.int .u8 z07,.int .u8 z0e] 103 (0,0)) (by (with_reducible repeat first|apply zN|apply zD|apply zA);refine zP (cs:=#[.int .u8 z09,.int .u8 z0a,.int .u8 z0b,.int .u8 z07,.int .u8 0]) ?_ 4 _ rfl;(with_reducible repeat first|apply zN|apply zD|apply zA);refine zP (cs:=#[.int .u8 z09,.int .u8 z0a,.int .u8 z0b,.int .u8 0,.int .u8 0]) ?_ 3 _ rfl;(with_reducible repeat first|apply zN|apply zD|apply zA);refine zP (cs:=#[.int .u8 z09,.int .u8 z0a,.int .u8 0,.int .u8 0,.int .u8 0]) ?_ 2 _ rfl;(with_reducible repeat first|apply zN|apply zD|apply zA);refine zP (cs:=#[.int .u8 z09,.int .u8 0,.int .u8 0,.int .u8 0,.int .u8 0]) ?_ 1 _ rfl;(with_reducible repeat first|apply zN|apply zD|apply zA);refine zP (cs:=#[.int .u8 0,.int .u8 0,.int .u8 0,.int .u8 0,.int .u8 0]) ?_ 0 _ rfl;(with_reducible repeat first|apply zN|apply zD|apply zA);exact z03.out) hb);have n2_:=zM (yT (by repeat (first|(with_reducible first|exact HB.out|apply yA|apply yN|apply yD|refine yS ?_ z06.out|refine yS ?_ z08.out)|exact HB.out)) hb);clear z02;clear z03;clear HB;have z02:=n0_;have z03:=n1_;have HB:=n2_;clear n0_ n1_ n2_;(try clear hb);(try clear hb2);(try clear hk);(try clear hi);obtain ⟨z2t,z2u,z2v,z2w,z2x,z2y,z2z,z30,z31,z32⟩:=kc5 z02.out))
  refine zE (results_ct rfl _ _ z04 79 #[.bool false,.int .u8 0,.int .u32 0,.int .u16 0,.string (⟨#[]⟩ : ByteArray)] (0,0) _ rfl (by (with_reducible repeat first|apply zN|apply zD|apply zA);refine zP (cs:=#[.bool false,.int .u8 0,.int .u32 0,.int .u16 0,.string (⟨#[]⟩ : ByteArray)]) ?_ 4 _ rfl;(with_reducible repeat first|apply zN|apply zD|apply zA);refine zP (cs:=#[.bool false,.int .u8 0,.int .u32 0,.int .u16 0,.string (⟨#[]⟩ : ByteArray)]) ?_ 3 _ rfl;(with_reducible repeat first|apply zN|apply zD|apply zA);refine zP (cs:=#[.bool false,.int .u8 0,.int .u32 0,.int .u16 0,.string (⟨#[]⟩ : ByteArray)]) ?_ 2 _ rfl;(with_reducible repeat first|apply zN|apply zD|apply zA);refine zP (cs:=#[.bool false,.int .u8 0,.int .u32 0,.int .u16 0,.string (⟨#[]⟩ : ByteArray)]) ?_ 1 _ rfl;(with_reducible repeat first|apply zN|apply zD|apply zA);refine zP (cs:=#[.bool false,.int .u8 0,.int .u32 0,.int .u16 0,.string (⟨#[]⟩ : ByteArray)]) ?_ 0 _ rfl;(with_reducible repeat first|apply zN|apply zD|apply zA);exact z02.out) Try.underlying79 rfl (by kernel_rfl)) rfl ?_;exact ⟨by first|rfl|(simp [errW_none,errW_some] <;> rfl)|(simp [*,errW_none,errW_some] <;> rfl),by repeat (first|(with_reducible first|exact HB.out|apply yA|apply yN|apply yD|refine yS ?_ z06.out|refine yS ?_ z08.out)|exact HB.out)⟩
 rw [if_neg c4] at H;have c4b0 : (z0g == 0) = false:=beq_eq_false_iff_ne.mpr c4;have c4b1 : (z0g != 0) = true:=bne_iff_ne.mpr c4;simp only [Option.some.injEq,Prod.mk.injEq] at H;obtain ⟨rfl,rfl,rfl,rfl,rfl,rfl⟩:=H;go_enter Try.func41,Try.ntmps41
 go_wp2_with (first|((with_reducible refine gate_dst (N:=4) rfl ?_);(try (refine gate_guard (by rfl) ?_;dsimp only));refine box_event ?hg (N:=4) ?hd (cs:=#[.bool false,.int .u8 0,.int .u32 0,.int .u16 0,.string (⟨#[]⟩ : ByteArray)]) (t:=79) ?hr ?_;(case hd => rfl);(case hg => rfl);(case hr => first|(go_simp;done)|(go_simp;rfl));intro z04 hg w56 hbox hb;have n0_:=zM (yT (by repeat first|(with_reducible first|exact HB.out|apply yA|apply yN|apply yD)|exact HB.out) hb);have n1_:=zM (hbox);have n2_:=zM ((by rw [hg];exact (yZ (by repeat first|(with_reducible first|exact HB.out|apply yA|apply yN|apply yD)|exact HB.out)) : w.heap.size ≤ z04));have n3_:=zM ((by rw [hg];exact (yZ (by repeat first|(with_reducible first|exact HB.out|apply yA|apply yN|apply yD)|exact HB.out)) : w.heap.size ≤ z04));clear HB;have HB:=n0_;have z02:=n1_;have z0s:=n2_;have z06:=n3_;clear n0_ n1_ n2_ n3_;clear hb hbox hg)|((with_reducible refine gate_callee (f:=58) rfl ?_);refine goesL_ (some 13) rfl rfl Try.func58 (by kernel_rfl) rfl #[.string a0] rfl (by (try simp only [List.map_toArray,List.map_cons,List.map_nil]);first|done|rfl|(simp only [List.length_drop,List.length_take];rfl)) ?_;(with_reducible refine (carouselref04_Open.calls k a0 z09 z0a z0b z07 z0e z0c z0g _ A3.out).mono ?_);rintro e w57 ⟨rfl,hb⟩;refine ⟨_,rfl,?_⟩;have n0_:=zM (zB (g:=z04) (o:=.cells #[.bool false,.int .u8 0,.int .u32 0,.int .u16 0,.string (⟨#[]⟩ : ByteArray)] 79 (0,0)) (by (with_reducible repeat first|apply zN|apply zD|apply zA);exact z02.out) hb);have n1_:=zM (yT (by repeat first|(with_reducible first|exact HB.out|apply yA|apply yN|apply yD|refine yS ?_ z06.out)|exact HB.out) hb);clear z02;clear HB;have z02:=n0_;have HB:=n1_;clear n0_ n1_;(try clear hb);(try clear hb2);(try clear hk);(try clear hi))|((with_reducible refine gate_dst (N:=6) rfl ?_);(try (refine gate_guard (by rfl) ?_;dsimp only));refine box_event ?hg (N:=6) ?hd (cs:=#[.int .u8 0,.int .u8 0,.int .u8 0,.int .u8 0,.int .u8 0]) (t:=103) ?hr ?_;(case hd => rfl);(case hg => rfl);(case hr => first|(go_simp;done)|(go_simp;rfl));intro z05 hg w58 hbox hb;have n0_:=zM (zB (g:=z04) (o:=.cells #[.bool false,.int .u8 0,.int .u32 0,.int .u16 0,.string (⟨#[]⟩ : ByteArray)] 79 (0,0)) (by (with_reducible repeat first|apply zN|apply zD|apply zA);exact z02.out) hb);have n1_:=zM (yT (by repeat first|(with_reducible first|exact HB.out|apply yA|apply yN|apply yD|refine yS ?_ z06.out)|exact HB.out) hb);have n2_:=zM (hbox);have n3_:=zM ((by rw [hg];exact (yZ (by repeat first|(with_reducible first|exact HB.out|apply yA|apply yN|apply yD|refine yS ?_ z06.out)|exact HB.out)) : w.heap.size ≤ z05));have n4_:=zM ((by rw [hg];exact (yZ (by repeat first|(with_reducible first|exact HB.out|apply yA|apply yN|apply yD|refine yS ?_ z06.out)|exact HB.out)) : w.heap.size ≤ z05));have n5_:=zM ((by rw [hg];exact Nat.ne_of_lt (blk_lt (g:=z04) (o:=.cells #[.bool false,.int .u8 0,.int .u32 0,.int .u16 0,.string (⟨#[]⟩ : ByteArray)] 79 (0,0)) (by (with_reducible repeat first|apply zN|apply zD|apply zA);exact z02.out)) : z04 ≠ z05));have n6_:=zM ((by rw [hg];exact Nat.ne_of_gt (blk_lt (g:=z04) (o:=.cells #[.bool false,.int .u8 0,.int .u32 0,.int .u16 0,.string (⟨#[]⟩ : ByteArray)] 79 (0,0)) (by (with_reducible repeat first|apply zN|apply zD|apply zA);exact z02.out)) : z05 ≠ z04));clear z02;clear HB;have z02:=n0_;have HB:=n1_;have z03:=n2_;have z0t:=n3_;have z08:=n4_;have z01:=n5_;have z00:=n6_;clear n0_ n1_ n2_ n3_ n4_ n5_ n6_;clear hb hbox hg;have z3z:=z00.out;have z40:=z01.out;obtain ⟨z33,z34,z35,z36,z37,z38,z39,z3a,z3b,z3c⟩:=kc5 z03.out;obtain ⟨z3d,z3e,z3f,z3g,z3h,z3i,z3j,z3k,z3l,z3m⟩:=kc5 z02.out))
 refine zE (results_ct rfl _ _ z04 79 #[.bool false,.int .u8 0,.int .u32 0,.int .u16 0,.string (⟨#[]⟩ : ByteArray)] (0,0) _ rfl (by (with_reducible repeat first|apply zN|apply zD|apply zA);refine zP (cs:=#[.bool false,.int .u8 0,.int .u32 0,.int .u16 0,.string (⟨#[]⟩ : ByteArray)]) ?_ 4 _ rfl;(with_reducible repeat first|apply zN|apply zD|apply zA);refine zP (cs:=#[.bool false,.int .u8 0,.int .u32 0,.int .u16 0,.string (⟨#[]⟩ : ByteArray)]) ?_ 3 _ rfl;(with_reducible repeat first|apply zN|apply zD|apply zA);refine zP (cs:=#[.bool false,.int .u8 0,.int .u32 0,.int .u16 0,.string (⟨#[]⟩ : ByteArray)]) ?_ 2 _ rfl;(with_reducible repeat first|apply zN|apply zD|apply zA);refine zP (cs:=#[.bool false,.int .u8 0,.int .u32 0,.int .u16 0,.string (⟨#[]⟩ : ByteArray)]) ?_ 1 _ rfl;(with_reducible repeat first|apply zN|apply zD|apply zA);refine zP (cs:=#[.bool false,.int .u8 0,.int .u32 0,.int .u16 0,.string (⟨#[]⟩ : ByteArray)]) ?_ 0 _ rfl;(with_reducible repeat first|apply zN|apply zD|apply zA);refine zG ?_ z01.out _;(with_reducible repeat first|apply zN|apply zD|apply zA);refine zG ?_ z01.out _;(with_reducible repeat first|apply zN|apply zD|apply zA);refine zG ?_ z01.out _;(with_reducible repeat first|apply zN|apply zD|apply zA);refine zG ?_ z01.out _;(with_reducible repeat first|apply zN|apply zD|apply zA);refine zG ?_ z01.out _;(with_reducible repeat first|apply zN|apply zD|apply zA);exact z02.out) Try.underlying79 rfl (by kernel_rfl)) rfl ?_;exact ⟨by first|rfl|(simp [errW_none,errW_some] <;> rfl)|(simp [*,errW_none,errW_some] <;> rfl),by repeat (first|(with_reducible first|exact HB.out|apply yA|apply yN|apply yD|refine yS ?_ z06.out|refine yS ?_ z08.out)|exact HB.out)⟩

end Go.Proofs.Ytapicoienpbdfaa.PWatchPlays
