-- Written by a program of this work, after the translation.
import Derived.Test.YtapicoienpbdfaaPWatchPlaysx0
import Derived.Test.YtapicoienpbdfaaPWatchPlaysx2
namespace Go.Proofs.Ytapicoienpbdfaa.PWatchPlays
open Go.RowKit Go.Proofs.YtapicoienpbdfaaW.PrintWords Go.Proofs.YtapicoienpbdfaaW.PrintLast Go.Proofs.YtapicoienpbdfaaW.PrintMore
attribute [local go_sem] max2_int min2_int max_two min_two max_three min_three max_four min_four   -- for this text's walks alone
set_option linter.unusedVariables false
set_option linter.unusedSimpArgs false

/-! ### watch_New: function 22 -/
def watch_New.j0 : Nat → Bool → Int → Int → Int → ByteArray → Int → Int → Int → Int → Bool → Bool → Option (Int × Int × Int × ByteArray × Int × Int × Int × Int × Bool × Bool × Int)
  | 0, _, _, _, _, _, _, _, _, _, _, _ => none
  | k + 1, x49, x125000, x125001, x125002, x125003, x125004, x125005, x125006, x125007, x125008, x125009 => if x49 = true then (some (0, 0, 0, (⟨#[]⟩ : ByteArray), 0, 0, 0, 0, false, false, 4)) else (some (x125000, x125001, x125002, x125003, x125004, x125005, x125006, x125007, x125008, x125009, 0))
def watch_New.f (k : Nat) (a0 : Int) (a1 : Int) (a2 : Int) (a3 : ByteArray) (a4 : Int) (a5 : Int) : Option (Int × Int × Int × ByteArray × Int × Int × Int × Int × Bool × Bool × Int) := (watch_Watch_message.f a0 a1 a2 a3 a4 a5 a5 0 false false).bind fun bt125 => ((ccm_Close.f k bt125.1 bt125.2.1 bt125.2.2.1 bt125.2.2.2.1 bt125.2.2.2.2 a0).bind fun bt130 => (if bt130.2 = 0 then (if a4 < 1 then (watch_New.j0 k true a0 a1 a2 a3 a4 a5 a5 0 false false) else (if a4 > 1048576 then (watch_New.j0 k true a0 a1 a2 a3 a4 a5 a5 0 false false) else (if a5 < 0 then (watch_New.j0 k true a0 a1 a2 a3 a4 a5 a5 0 false false) else (watch_New.j0 k (decide (a5 > 1099511627776)) a0 a1 a2 a3 a4 a5 a5 0 false false)))) else (some (0, 0, 0, (⟨#[]⟩ : ByteArray), 0, 0, 0, 0, false, false, bt130.2))))
theorem watch_New.mono_l : ∀ k, (∀ y0 y1 y2 y3 y4 y5 y6 y7 y8 y9 y10, LeO (watch_New.j0 k y0 y1 y2 y3 y4 y5 y6 y7 y8 y9 y10) (watch_New.j0 (k + 1) y0 y1 y2 y3 y4 y5 y6 y7 y8 y9 y10))
 | 0 => fun _ _ _ _ _ _ _ _ _ _ _ r h => by simp [watch_New.j0] at h
 | k + 1 => by
  have ih0 := watch_New.mono_l k
  intro y0 y1 y2 y3 y4 y5 y6 y7 y8 y9 y10
  unfold watch_New.j0
  repeat' first
  | (with_reducible exact ih0 _ _ _ _ _ _ _ _ _ _ _)
  | (with_reducible exact ccm_Close.mono _ _ _ _ _ _ _)
  | (with_reducible exact LeO.refl _)
  | (with_reducible exact LeO.none _)
  | (with_reducible refine LeO.ite ?_ ?_)
  | (with_reducible refine LeO.bind ?_ (fun _ => ?_))
  | exact ih0 _ _ _ _ _ _ _ _ _ _ _
  | exact ccm_Close.mono _ _ _ _ _ _ _
  | exact LeO.none _
  | refine LeO.ite ?_ ?_
  | refine LeO.bind ?_ (fun _ => ?_)
theorem watch_New.mono : ∀ a0 a1 a2 a3 a4 a5 k, LeO (watch_New.f k a0 a1 a2 a3 a4 a5) (watch_New.f (k + 1) a0 a1 a2 a3 a4 a5) := by
 intro a0 a1 a2 a3 a4 a5 k;have ih0:=watch_New.mono_l k;unfold watch_New.f
 repeat' first
  | (with_reducible exact ih0 _ _ _ _ _ _ _ _ _ _ _)
  | (with_reducible exact ccm_Close.mono _ _ _ _ _ _ _)
  | (with_reducible exact LeO.refl _)
  | (with_reducible exact LeO.none _)
  | (with_reducible refine LeO.ite ?_ ?_)
  | (with_reducible refine LeO.bind ?_ (fun _ => ?_))
  | exact ih0 _ _ _ _ _ _ _ _ _ _ _
  | exact ccm_Close.mono _ _ _ _ _ _ _
  | exact LeO.none _
  | refine LeO.ite ?_ ?_
  | refine LeO.bind ?_ (fun _ => ?_)
set_option maxHeartbeats 8000000 in
set_option maxRecDepth 100000 in
theorem watch_New.calls (k : Nat) (a0 : Int) (a1 : Int) (a2 : Int) (a3 : ByteArray) (a4 : Int) (a5 : Int) (r1 : Int) (r2 : Int) (r3 : Int) (r4 : ByteArray) (r5 : Int) (r6 : Int) (r7 : Int) (r8 : Int) (r9 : Bool) (r10 : Bool) (r11 : Int) (w : World) (h : watch_New.f k a0 a1 a2 a3 a4 a5 = some (r1, r2, r3, r4, r5, r6, r7, r8, r9, r10, r11)) :
  Calls Try.prog 22 #[.int .u8 a0, .int .u16 a1, .int .u8 a2, .string a3, .int .i64 a4, .int .i64 a5] w fun e w' => e = .returned (.tuple #[.agg #[.int .u8 r1, .int .u16 r2, .int .u8 r3, .string r4, .int .i64 r5, .int .i64 r6, .int .i64 r7, .int .u64 r8, .bool r9, .bool r10], .int .i64 r11]) ∧ Below w.heap.size w w' := by
 have hu42:=Try.underlying42;have HB:=zM (Below.refl w.heap.size w);have H : ((watch_Watch_message.f a0 a1 a2 a3 a4 a5 a5 0 false false).bind fun bt125 => ((ccm_Close.f k bt125.1 bt125.2.1 bt125.2.2.1 bt125.2.2.2.1 bt125.2.2.2.2 a0).bind fun bt130 => (if bt130.2 = 0 then (if a4 < 1 then (watch_New.j0 k true a0 a1 a2 a3 a4 a5 a5 0 false false) else (if a4 > 1048576 then (watch_New.j0 k true a0 a1 a2 a3 a4 a5 a5 0 false false) else (if a5 < 0 then (watch_New.j0 k true a0 a1 a2 a3 a4 a5 a5 0 false false) else (watch_New.j0 k (decide (a5 > 1099511627776)) a0 a1 a2 a3 a4 a5 a5 0 false false)))) else (some (0,0,0,(⟨#[]⟩ : ByteArray),0,0,0,0,false,false,bt130.2))))) = some (r1,r2,r3,r4,r5,r6,r7,r8,r9,r10,r11):=h;clear h;replace H:=Option.bind_eq_some_iff.mp H;obtain ⟨⟨z0t,z0u,z0v,z0w,z0x⟩,A70,H⟩:=H;try dsimp only at H
 have A7:=zM A70;clear A70;replace H:=Option.bind_eq_some_iff.mp H;obtain ⟨⟨z3t,z08⟩,A80,H⟩:=H;try dsimp only at H
 have A8:=zM A80;clear A80;by_cases c9 : z08 = 0
 ·
  rw [if_pos c9] at H;have c9b0 : (z08 == 0) = true:=beq_iff_eq.mpr c9;have c9b1 : (z08 != 0) = false:=bne_eq_false_iff_eq.mpr c9;clear c9;have z0y:=zM H;clear H;go_enter Try.func22,Try.ntmps22
  go_upto_region 5 with (first|((with_reducible refine gate_dst (N:=12) rfl ?_);refine box_event ?hg (N:=12) ?hd (cs:=#[.int .u8 0,.int .u16 0,.int .u8 0,.string (⟨#[]⟩ : ByteArray),.int .i64 0,.int .i64 0,.int .i64 0,.int .u64 0,.bool false,.bool false]) (t:=42) ?hr ?_;(case hd => rfl);(case hg => rfl);(case hr => first|(go_simp;done)|(go_simp;rfl));intro z02 hg w11 hbox hb;have n0_:=zM (yT (by repeat first|(with_reducible first|exact HB.out|apply yA|apply yN|apply yD)|exact HB.out) hb);have n1_:=zM (hbox);have n2_:=zM ((by rw [hg];exact (yZ (by repeat first|(with_reducible first|exact HB.out|apply yA|apply yN|apply yD)|exact HB.out)) : w.heap.size ≤ z02));have n3_:=zM ((by rw [hg];exact (yZ (by repeat first|(with_reducible first|exact HB.out|apply yA|apply yN|apply yD)|exact HB.out)) : w.heap.size ≤ z02));clear HB;have HB:=n0_;have z01:=n1_;have z0z:=n2_;have z04:=n3_;clear n0_ n1_ n2_ n3_;clear hb hbox hg)|((with_reducible refine gate_dst (N:=14) rfl ?_);refine box_event ?hg (N:=14) ?hd (cs:=#[.int .u8 0,.int .u16 0,.int .u8 0,.string (⟨#[]⟩ : ByteArray),.int .i64 0,.int .i64 0,.int .i64 0,.int .u64 0,.bool false,.bool false]) (t:=42) ?hr ?_;(case hd => rfl);(case hg => rfl);(case hr => first|(go_simp;done)|(go_simp;rfl));intro z06 hg w12 hbox hb;have n0_:=zM (zB (g:=z02) (o:=.cells #[.int .u8 0,.int .u16 0,.int .u8 0,.string (⟨#[]⟩ : ByteArray),.int .i64 0,.int .i64 0,.int .i64 0,.int .u64 0,.bool false,.bool false] 42 (0,0)) (by (with_reducible repeat first|apply zN|apply zD|apply zA);exact z01.out) hb);have n1_:=zM (yT (by repeat first|(with_reducible first|exact HB.out|apply yA|apply yN|apply yD|refine yS ?_ z04.out)|exact HB.out) hb);have n2_:=zM (hbox);have n3_:=zM ((by rw [hg];exact (yZ (by repeat first|(with_reducible first|exact HB.out|apply yA|apply yN|apply yD|refine yS ?_ z04.out)|exact HB.out)) : w.heap.size ≤ z06));have n4_:=zM ((by rw [hg];exact (yZ (by repeat first|(with_reducible first|exact HB.out|apply yA|apply yN|apply yD|refine yS ?_ z04.out)|exact HB.out)) : w.heap.size ≤ z06));have n5_:=zM ((by rw [hg];exact Nat.ne_of_lt (blk_lt (g:=z02) (o:=.cells #[.int .u8 0,.int .u16 0,.int .u8 0,.string (⟨#[]⟩ : ByteArray),.int .i64 0,.int .i64 0,.int .i64 0,.int .u64 0,.bool false,.bool false] 42 (0,0)) (by (with_reducible repeat first|apply zN|apply zD|apply zA);exact z01.out)) : z02 ≠ z06));have n6_:=zM ((by rw [hg];exact Nat.ne_of_gt (blk_lt (g:=z02) (o:=.cells #[.int .u8 0,.int .u16 0,.int .u8 0,.string (⟨#[]⟩ : ByteArray),.int .i64 0,.int .i64 0,.int .i64 0,.int .u64 0,.bool false,.bool false] 42 (0,0)) (by (with_reducible repeat first|apply zN|apply zD|apply zA);exact z01.out)) : z06 ≠ z02));clear z01;clear HB;have z01:=n0_;have HB:=n1_;have z03:=n2_;have z10:=n3_;have z07:=n4_;have z00:=n5_;have z05:=n6_;clear n0_ n1_ n2_ n3_ n4_ n5_ n6_;clear hb hbox hg;have z3u:=z05.out;have z3v:=z00.out;obtain ⟨z09,z0a,z0b,z0c,z0d,z0e,z0f,z0g,z0h,z0i,z0j,z0k,z0l,z0m,z0n,z0o,z0p,z0q,z0r,z0s⟩:=kc10 z03.out)|((with_reducible refine gate_callee (f:=39) rfl ?_);refine goesL_ (some 27) rfl rfl Try.func39 (by kernel_rfl) rfl #[.agg #[.int .u8 a0,.int .u16 a1,.int .u8 a2,.string a3,.int .i64 a4,.int .i64 a5,.int .i64 a5,.int .u64 0,.bool false,.bool false]] rfl (by (try simp only [List.map_toArray,List.map_cons,List.map_nil]);first|done|rfl|(simp only [List.length_drop,List.length_take];rfl)) ?_;(with_reducible refine (watch_Watch_message.calls a0 a1 a2 a3 a4 a5 a5 0 false false z0t z0u z0v z0w z0x _ A7.out).mono ?_);rintro e w15 ⟨rfl,hb⟩;refine ⟨_,rfl,?_⟩;have n0_:=zM (zB (g:=z02) (o:=.cells #[.int .u8 0,.int .u16 0,.int .u8 0,.string (⟨#[]⟩ : ByteArray),.int .i64 0,.int .i64 0,.int .i64 0,.int .u64 0,.bool false,.bool false] 42 (0,0)) (by (with_reducible repeat first|apply zN|apply zD|apply zA);refine zG ?_ z00.out _;(with_reducible repeat first|apply zN|apply zD|apply zA);refine zG ?_ z00.out _;(with_reducible repeat first|apply zN|apply zD|apply zA);refine zG ?_ z00.out _;(with_reducible repeat first|apply zN|apply zD|apply zA);refine zG ?_ z00.out _;(with_reducible repeat first|apply zN|apply zD|apply zA);refine zG ?_ z00.out _;(with_reducible repeat first|apply zN|apply zD|apply zA);refine zG ?_ z00.out _;(with_reducible repeat first|apply zN|apply zD|apply zA);refine zG ?_ z00.out _;(with_reducible repeat first|apply zN|apply zD|apply zA);refine zG ?_ z00.out _;(with_reducible repeat first|apply zN|apply zD|apply zA);refine zG ?_ z00.out _;(with_reducible repeat first|apply zN|apply zD|apply zA);refine zG ?_ z00.out _;(with_reducible repeat first|apply zN|apply zD|apply zA);exact z01.out) hb);have n1_:=zM (zB (g:=z06) (o:=.cells #[.int .u8 a0,.int .u16 a1,.int .u8 a2,.string a3,.int .i64 a4,.int .i64 a5,.int .i64 a5,.int .u64 0,.bool false,.bool false] 42 (0,0)) (by (with_reducible repeat first|apply zN|apply zD|apply zA);refine zP (cs:=#[.int .u8 a0,.int .u16 a1,.int .u8 a2,.string a3,.int .i64 a4,.int .i64 a5,.int .i64 a5,.int .u64 0,.bool false,.bool false]) ?_ 9 _ rfl;(with_reducible repeat first|apply zN|apply zD|apply zA);refine zP (cs:=#[.int .u8 a0,.int .u16 a1,.int .u8 a2,.string a3,.int .i64 a4,.int .i64 a5,.int .i64 a5,.int .u64 0,.bool false,.bool false]) ?_ 8 _ rfl;(with_reducible repeat first|apply zN|apply zD|apply zA);refine zP (cs:=#[.int .u8 a0,.int .u16 a1,.int .u8 a2,.string a3,.int .i64 a4,.int .i64 a5,.int .i64 a5,.int .u64 0,.bool false,.bool false]) ?_ 7 _ rfl;(with_reducible repeat first|apply zN|apply zD|apply zA);refine zP (cs:=#[.int .u8 a0,.int .u16 a1,.int .u8 a2,.string a3,.int .i64 a4,.int .i64 a5,.int .i64 0,.int .u64 0,.bool false,.bool false]) ?_ 6 _ rfl;(with_reducible repeat first|apply zN|apply zD|apply zA);refine zP (cs:=#[.int .u8 a0,.int .u16 a1,.int .u8 a2,.string a3,.int .i64 a4,.int .i64 0,.int .i64 0,.int .u64 0,.bool false,.bool false]) ?_ 5 _ rfl;(with_reducible repeat first|apply zN|apply zD|apply zA);refine zP (cs:=#[.int .u8 a0,.int .u16 a1,.int .u8 a2,.string a3,.int .i64 0,.int .i64 0,.int .i64 0,.int .u64 0,.bool false,.bool false]) ?_ 4 _ rfl;(with_reducible repeat first|apply zN|apply zD|apply zA);refine zP (cs:=#[.int .u8 a0,.int .u16 a1,.int .u8 a2,.string (⟨#[]⟩ : ByteArray),.int .i64 0,.int .i64 0,.int .i64 0,.int .u64 0,.bool false,.bool false]) ?_ 3 _ rfl;(with_reducible repeat first|apply zN|apply zD|apply zA);refine zP (cs:=#[.int .u8 a0,.int .u16 a1,.int .u8 0,.string (⟨#[]⟩ : ByteArray),.int .i64 0,.int .i64 0,.int .i64 0,.int .u64 0,.bool false,.bool false]) ?_ 2 _ rfl;(with_reducible repeat first|apply zN|apply zD|apply zA);refine zP (cs:=#[.int .u8 a0,.int .u16 0,.int .u8 0,.string (⟨#[]⟩ : ByteArray),.int .i64 0,.int .i64 0,.int .i64 0,.int .u64 0,.bool false,.bool false]) ?_ 1 _ rfl;(with_reducible repeat first|apply zN|apply zD|apply zA);refine zP (cs:=#[.int .u8 0,.int .u16 0,.int .u8 0,.string (⟨#[]⟩ : ByteArray),.int .i64 0,.int .i64 0,.int .i64 0,.int .u64 0,.bool false,.bool false]) ?_ 0 _ rfl;(with_reducible repeat first|apply zN|apply zD|apply zA);exact z03.out) hb);have n2_:=zM (yT (by repeat (first|(with_reducible first|exact HB.out|apply yA|apply yN|apply yD|refine yS ?_ z04.out|refine yS ?_ z07.out)|exact HB.out)) hb);clear z01;clear z03;clear HB;have z01:=n0_;have z03:=n1_;have HB:=n2_;clear n0_ n1_ n2_;(try clear hb);(try clear hb2);(try clear hk);(try clear hi))|((with_reducible refine gate_callee (f:=38) rfl ?_);refine goesL_ (some 29) rfl rfl Try.func38 (by kernel_rfl) rfl #[.agg #[.bool z0t,.int .u8 z0u,.int .u32 z0v,.int .u16 z0w,.string z0x],.int .u8 a0] rfl (by (try simp only [List.map_toArray,List.map_cons,List.map_nil]);first|done|rfl|(simp only [List.length_drop,List.length_take];rfl)) ?_;(with_reducible refine (ccm_Close.calls k z0t z0u z0v z0w z0x a0 z3t z08 _ A8.out).mono ?_);rintro e w16 ⟨rfl,hb⟩;refine ⟨_,rfl,?_⟩;have n0_:=zM (zB (g:=z02) (o:=.cells #[.int .u8 0,.int .u16 0,.int .u8 0,.string (⟨#[]⟩ : ByteArray),.int .i64 0,.int .i64 0,.int .i64 0,.int .u64 0,.bool false,.bool false] 42 (0,0)) (by (with_reducible repeat first|apply zN|apply zD|apply zA);exact z01.out) hb);have n1_:=zM (zB (g:=z06) (o:=.cells #[.int .u8 a0,.int .u16 a1,.int .u8 a2,.string a3,.int .i64 a4,.int .i64 a5,.int .i64 a5,.int .u64 0,.bool false,.bool false] 42 (0,0)) (by (with_reducible repeat first|apply zN|apply zD|apply zA);exact z03.out) hb);have n2_:=zM (yT (by repeat (first|(with_reducible first|exact HB.out|apply yA|apply yN|apply yD|refine yS ?_ z04.out|refine yS ?_ z07.out)|exact HB.out)) hb);clear z01;clear z03;clear HB;have z01:=n0_;have z03:=n1_;have HB:=n2_;clear n0_ n1_ n2_;(try clear hb);(try clear hb2);(try clear hk);(try clear hi)))
  (try simp only [Act.put,sA,sB,sC])
  go_cut [49] (fun v49 wc => ∃ (kq : Nat) (x49_9 : Bool),v49 = .bool x49_9 ∧ Aside0 (watch_New.j0 kq x49_9 a0 a1 a2 a3 a4 a5 a5 0 false false = some (r1,r2,r3,r4,r5,r6,r7,r8,r9,r10,r11)) ∧ Aside0 (kq ≤ k) ∧ Aside0 (wc.heap[z02]? = some (.cells #[.int .u8 0,.int .u16 0,.int .u8 0,.string (⟨#[]⟩ : ByteArray),.int .i64 0,.int .i64 0,.int .i64 0,.int .u64 0,.bool false,.bool false] 42 (0,0))) ∧ Aside0 (wc.heap[z06]? = some (.cells #[.int .u8 a0,.int .u16 a1,.int .u8 a2,.string a3,.int .i64 a4,.int .i64 a5,.int .i64 a5,.int .u64 0,.bool false,.bool false] 42 (0,0))) ∧ Aside0 (Below w.heap.size w wc))
  case first =>
   have H:=z0y.out;clear z0y;by_cases c17 : a4 < 1
   ·
    rw [if_pos c17] at H;have c17b0 : decide (a4 < 1) = true:=dT c17;clear c17;(first|rw [c17b0]|(simp only [i64_w,i32_w];rw [c17b0])|skip)
    have H':=zM H;clear H;go_wp2;go_meet
    case rel => exact ⟨_,(true),(by first|rfl|(simp;done)|(simp [*];done)),H',⟨by first|omega|exact Nat.le_refl _⟩,⟨by (with_reducible repeat first|apply zN|apply zD|apply zA);exact z01.out⟩,⟨by (with_reducible repeat first|apply zN|apply zD|apply zA);exact z03.out⟩,⟨by repeat (first|(with_reducible first|exact HB.out|apply yA|apply yN|apply yD|refine yS ?_ z04.out|refine yS ?_ z07.out)|exact HB.out)⟩⟩
   rw [if_neg c17] at H;have c17b0 : decide (a4 < 1) = false:=dF c17;clear c17;(first|rw [c17b0]|(simp only [i64_w,i32_w];rw [c17b0])|skip)
   by_cases c18 : a4 > 1048576
   ·
    rw [if_pos c18] at H;have c18b0 : decide (1048576 < a4) = true:=dT c18;clear c18;have H':=zM H;clear H;go_wp2;go_meet
    case rel => exact ⟨_,(true),(by first|rfl|(simp;done)|(simp [*];done)),H',⟨by first|omega|exact Nat.le_refl _⟩,⟨by (with_reducible repeat first|apply zN|apply zD|apply zA);exact z01.out⟩,⟨by (with_reducible repeat first|apply zN|apply zD|apply zA);exact z03.out⟩,⟨by repeat (first|(with_reducible first|exact HB.out|apply yA|apply yN|apply yD|refine yS ?_ z04.out|refine yS ?_ z07.out)|exact HB.out)⟩⟩
   rw [if_neg c18] at H;have c18b0 : decide (1048576 < a4) = false:=dF c18;clear c18;by_cases c19 : a5 < 0
   ·
    rw [if_pos c19] at H;have c19b0 : decide (a5 < 0) = true:=dT c19;clear c19;have H':=zM H;clear H;go_wp2;go_meet
    case rel => exact ⟨_,(true),(by first|rfl|(simp;done)|(simp [*];done)),H',⟨by first|omega|exact Nat.le_refl _⟩,⟨by (with_reducible repeat first|apply zN|apply zD|apply zA);exact z01.out⟩,⟨by (with_reducible repeat first|apply zN|apply zD|apply zA);exact z03.out⟩,⟨by repeat (first|(with_reducible first|exact HB.out|apply yA|apply yN|apply yD|refine yS ?_ z04.out|refine yS ?_ z07.out)|exact HB.out)⟩⟩
   rw [if_neg c19] at H;have c19b0 : decide (a5 < 0) = false:=dF c19;clear c19;have H':=zM H;clear H;go_wp2;go_meet
   case rel => exact ⟨_,(decide (a5 > 1099511627776)),(by first|rfl|(simp;done)|(simp [*];done)),H',⟨by first|omega|exact Nat.le_refl _⟩,⟨by (with_reducible repeat first|apply zN|apply zD|apply zA);exact z01.out⟩,⟨by (with_reducible repeat first|apply zN|apply zD|apply zA);exact z03.out⟩,⟨by repeat (first|(with_reducible first|exact HB.out|apply yA|apply yN|apply yD|refine yS ?_ z04.out|refine yS ?_ z07.out)|exact HB.out)⟩⟩
  case rest =>
   clear z0y;try clear c1
   try clear c2
   try clear p2
   try clear c3
   try clear c9
   try clear c9b0
   try clear c9b1
   try clear c13
   try clear c17
   try clear c17b0
   try clear c18
   try clear c18b0
   try clear c19
   try clear c19b0
   try clear z09
   try clear z0a
   try clear z0b
   try clear z0c
   try clear z0d
   try clear z0e
   try clear z0f
   try clear z0g
   try clear z0h
   try clear z0i
   try clear z0j
   try clear z0k
   try clear z0l
   try clear z0m
   try clear z0n
   try clear z0o
   try clear z0p
   try clear z0q
   try clear z0r
   try clear z0s
   obtain ⟨kq,x49_9,rfl,HA,HJ9,z01,z03,HB⟩:=hcut;cases kq with
  | zero => exact absurd HA.out (by simp [watch_New.j0])
  | succ kj9 =>
    have H:=HA.out;clear HA;simp only [watch_New.j0] at H;by_cases c20 : x49_9 = true
    ·
     subst c20;have H1 : (some (0,0,0,(⟨#[]⟩ : ByteArray),0,0,0,0,false,false,4)) = some (r1,r2,r3,r4,r5,r6,r7,r8,r9,r10,r11):=by rw [if_pos rfl] at H;exact H
     clear H;have H:=H1;clear H1;simp only [Option.some.injEq,Prod.mk.injEq] at H;obtain ⟨rfl,rfl,rfl,rfl,rfl,rfl,rfl,rfl,rfl,rfl,rfl⟩:=H;have z3w:=z00.out;have z3x:=z05.out;obtain ⟨z11,z12,z13,z14,z15,z16,z17,z18,z19,z1a,z1b,z1c,z1d,z1e,z1f,z1g,z1h,z1i,z1j,z1k⟩:=kc10 z01.out;go_wp2;refine zE (results_ct rfl _ _ z02 42 #[.int .u8 0,.int .u16 0,.int .u8 0,.string (⟨#[]⟩ : ByteArray),.int .i64 0,.int .i64 0,.int .i64 0,.int .u64 0,.bool false,.bool false] (0,0) _ rfl (by (with_reducible repeat first|apply zN|apply zD|apply zA);refine zP (cs:=#[.int .u8 0,.int .u16 0,.int .u8 0,.string (⟨#[]⟩ : ByteArray),.int .i64 0,.int .i64 0,.int .i64 0,.int .u64 0,.bool false,.bool false]) ?_ 9 _ rfl;(with_reducible repeat first|apply zN|apply zD|apply zA);refine zP (cs:=#[.int .u8 0,.int .u16 0,.int .u8 0,.string (⟨#[]⟩ : ByteArray),.int .i64 0,.int .i64 0,.int .i64 0,.int .u64 0,.bool false,.bool false]) ?_ 8 _ rfl;(with_reducible repeat first|apply zN|apply zD|apply zA);refine zP (cs:=#[.int .u8 0,.int .u16 0,.int .u8 0,.string (⟨#[]⟩ : ByteArray),.int .i64 0,.int .i64 0,.int .i64 0,.int .u64 0,.bool false,.bool false]) ?_ 7 _ rfl;(with_reducible repeat first|apply zN|apply zD|apply zA);refine zP (cs:=#[.int .u8 0,.int .u16 0,.int .u8 0,.string (⟨#[]⟩ : ByteArray),.int .i64 0,.int .i64 0,.int .i64 0,.int .u64 0,.bool false,.bool false]) ?_ 6 _ rfl;(with_reducible repeat first|apply zN|apply zD|apply zA);refine zP (cs:=#[.int .u8 0,.int .u16 0,.int .u8 0,.string (⟨#[]⟩ : ByteArray),.int .i64 0,.int .i64 0,.int .i64 0,.int .u64 0,.bool false,.bool false]) ?_ 5 _ rfl;(with_reducible repeat first|apply zN|apply zD|apply zA);refine zP (cs:=#[.int .u8 0,.int .u16 0,.int .u8 0,.string (⟨#[]⟩ : ByteArray),.int .i64 0,.int .i64 0,.int .i64 0,.int .u64 0,.bool false,.bool false]) ?_ 4 _ rfl;(with_reducible repeat first|apply zN|apply zD|apply zA);refine zP (cs:=#[.int .u8 0,.int .u16 0,.int .u8 0,.string (⟨#[]⟩ : ByteArray),.int .i64 0,.int .i64 0,.int .i64 0,.int .u64 0,.bool false,.bool false]) ?_ 3 _ rfl;(with_reducible repeat first|apply zN|apply zD|apply zA);refine zP (cs:=#[.int .u8 0,.int .u16 0,.int .u8 0,.string (⟨#[]⟩ : ByteArray),.int .i64 0,.int .i64 0,.int .i64 0,.int .u64 0,.bool false,.bool false]) ?_ 2 _ rfl;(with_reducible repeat first|apply zN|apply zD|apply zA);refine zP (cs:=#[.int .u8 0,.int .u16 0,.int .u8 0,.string (⟨#[]⟩ : ByteArray),.int .i64 0,.int .i64 0,.int .i64 0,.int .u64 0,.bool false,.bool false]) ?_ 1 _ rfl;(with_reducible repeat first|apply zN|apply zD|apply zA);refine zP (cs:=#[.int .u8 0,.int .u16 0,.int .u8 0,.string (⟨#[]⟩ : ByteArray),.int .i64 0,.int .i64 0,.int .i64 0,.int .u64 0,.bool false,.bool false]) ?_ 0 _ rfl;(with_reducible repeat first|apply zN|apply zD|apply zA);exact z01.out) Try.underlying42 rfl (by kernel_rfl)) rfl ?_;exact ⟨by first|rfl|(simp [errW_none,errW_some] <;> rfl)|(simp [*,errW_none,errW_some] <;> rfl),by repeat (first|(with_reducible first|exact HB.out|apply yA|apply yN|apply yD|refine yS ?_ z04.out|refine yS ?_ z07.out)|exact HB.out)⟩
    replace c20:=Bool.eq_false_iff.mpr c20;subst c20;have H1 : (some (a0,a1,a2,a3,a4,a5,a5,0,false,false,0)) = some (r1,r2,r3,r4,r5,r6,r7,r8,r9,r10,r11):=by rw [if_neg (show ¬ (false = true) by decide)] at H;exact H
    clear H;have H:=H1;clear H1;simp only [Option.some.injEq,Prod.mk.injEq] at H;obtain ⟨rfl,rfl,rfl,rfl,rfl,rfl,rfl,rfl,rfl,rfl,rfl⟩:=H;have z3y:=z05.out;have z3z:=z00.out;obtain ⟨z1l,z1m,z1n,z1o,z1p,z1q,z1r,z1s,z1t,z1u,z1v,z1w,z1x,z1y,z1z,z20,z21,z22,z23,z24⟩:=kc10 z03.out;obtain ⟨z25,z26,z27,z28,z29,z2a,z2b,z2c,z2d,z2e,z2f,z2g,z2h,z2i,z2j,z2k,z2l,z2m,z2n,z2o⟩:=kc10 z01.out;go_wp2;refine zE (results_ct rfl _ _ z02 42 #[.int .u8 a0,.int .u16 a1,.int .u8 a2,.string a3,.int .i64 a4,.int .i64 a5,.int .i64 a5,.int .u64 0,.bool false,.bool false] (0,0) _ rfl (by (with_reducible repeat first|apply zN|apply zD|apply zA);refine zP (cs:=#[.int .u8 a0,.int .u16 a1,.int .u8 a2,.string a3,.int .i64 a4,.int .i64 a5,.int .i64 a5,.int .u64 0,.bool false,.bool false]) ?_ 9 _ rfl;(with_reducible repeat first|apply zN|apply zD|apply zA);refine zP (cs:=#[.int .u8 a0,.int .u16 a1,.int .u8 a2,.string a3,.int .i64 a4,.int .i64 a5,.int .i64 a5,.int .u64 0,.bool false,.bool false]) ?_ 8 _ rfl;(with_reducible repeat first|apply zN|apply zD|apply zA);refine zP (cs:=#[.int .u8 a0,.int .u16 a1,.int .u8 a2,.string a3,.int .i64 a4,.int .i64 a5,.int .i64 a5,.int .u64 0,.bool false,.bool false]) ?_ 7 _ rfl;(with_reducible repeat first|apply zN|apply zD|apply zA);refine zP (cs:=#[.int .u8 a0,.int .u16 a1,.int .u8 a2,.string a3,.int .i64 a4,.int .i64 a5,.int .i64 0,.int .u64 0,.bool false,.bool false]) ?_ 6 _ rfl;(with_reducible repeat first|apply zN|apply zD|apply zA);refine zP (cs:=#[.int .u8 a0,.int .u16 a1,.int .u8 a2,.string a3,.int .i64 a4,.int .i64 0,.int .i64 0,.int .u64 0,.bool false,.bool false]) ?_ 5 _ rfl;(with_reducible repeat first|apply zN|apply zD|apply zA);refine zP (cs:=#[.int .u8 a0,.int .u16 a1,.int .u8 a2,.string a3,.int .i64 0,.int .i64 0,.int .i64 0,.int .u64 0,.bool false,.bool false]) ?_ 4 _ rfl;(with_reducible repeat first|apply zN|apply zD|apply zA);refine zP (cs:=#[.int .u8 a0,.int .u16 a1,.int .u8 a2,.string (⟨#[]⟩ : ByteArray),.int .i64 0,.int .i64 0,.int .i64 0,.int .u64 0,.bool false,.bool false]) ?_ 3 _ rfl;(with_reducible repeat first|apply zN|apply zD|apply zA);refine zP (cs:=#[.int .u8 a0,.int .u16 a1,.int .u8 0,.string (⟨#[]⟩ : ByteArray),.int .i64 0,.int .i64 0,.int .i64 0,.int .u64 0,.bool false,.bool false]) ?_ 2 _ rfl;(with_reducible repeat first|apply zN|apply zD|apply zA);refine zP (cs:=#[.int .u8 a0,.int .u16 0,.int .u8 0,.string (⟨#[]⟩ : ByteArray),.int .i64 0,.int .i64 0,.int .i64 0,.int .u64 0,.bool false,.bool false]) ?_ 1 _ rfl;(with_reducible repeat first|apply zN|apply zD|apply zA);refine zP (cs:=#[.int .u8 0,.int .u16 0,.int .u8 0,.string (⟨#[]⟩ : ByteArray),.int .i64 0,.int .i64 0,.int .i64 0,.int .u64 0,.bool false,.bool false]) ?_ 0 _ rfl;(with_reducible repeat first|apply zN|apply zD|apply zA);exact z01.out) Try.underlying42 rfl (by kernel_rfl)) rfl ?_;exact ⟨by first|rfl|(simp [errW_none,errW_some] <;> rfl)|(simp [*,errW_none,errW_some] <;> rfl),by repeat (first|(with_reducible first|exact HB.out|apply yA|apply yN|apply yD|refine yS ?_ z04.out|refine yS ?_ z07.out)|exact HB.out)⟩
 rw [if_neg c9] at H;have c9b0 : (z08 == 0) = false:=beq_eq_false_iff_ne.mpr c9;have c9b1 : (z08 != 0) = true:=bne_iff_ne.mpr c9;simp only [Option.some.injEq,Prod.mk.injEq] at H;obtain ⟨rfl,rfl,rfl,rfl,rfl,rfl,rfl,rfl,rfl,rfl,rfl⟩:=H;go_enter Try.func22,Try.ntmps22
 go_wp2_with (first|((with_reducible refine gate_dst (N:=12) rfl ?_);refine box_event ?hg (N:=12) ?hd (cs:=#[.int .u8 0,.int .u16 0,.int .u8 0,.string (⟨#[]⟩ : ByteArray),.int .i64 0,.int .i64 0,.int .i64 0,.int .u64 0,.bool false,.bool false]) (t:=42) ?hr ?_;(case hd => rfl);(case hg => rfl);(case hr => first|(go_simp;done)|(go_simp;rfl));intro z02 hg w26 hbox hb;have n0_:=zM (yT (by repeat first|(with_reducible first|exact HB.out|apply yA|apply yN|apply yD)|exact HB.out) hb);have n1_:=zM (hbox);have n2_:=zM ((by rw [hg];exact (yZ (by repeat first|(with_reducible first|exact HB.out|apply yA|apply yN|apply yD)|exact HB.out)) : w.heap.size ≤ z02));have n3_:=zM ((by rw [hg];exact (yZ (by repeat first|(with_reducible first|exact HB.out|apply yA|apply yN|apply yD)|exact HB.out)) : w.heap.size ≤ z02));clear HB;have HB:=n0_;have z01:=n1_;have z0z:=n2_;have z04:=n3_;clear n0_ n1_ n2_ n3_;clear hb hbox hg)|((with_reducible refine gate_dst (N:=14) rfl ?_);refine box_event ?hg (N:=14) ?hd (cs:=#[.int .u8 0,.int .u16 0,.int .u8 0,.string (⟨#[]⟩ : ByteArray),.int .i64 0,.int .i64 0,.int .i64 0,.int .u64 0,.bool false,.bool false]) (t:=42) ?hr ?_;(case hd => rfl);(case hg => rfl);(case hr => first|(go_simp;done)|(go_simp;rfl));intro z06 hg w27 hbox hb;have n0_:=zM (zB (g:=z02) (o:=.cells #[.int .u8 0,.int .u16 0,.int .u8 0,.string (⟨#[]⟩ : ByteArray),.int .i64 0,.int .i64 0,.int .i64 0,.int .u64 0,.bool false,.bool false] 42 (0,0)) (by (with_reducible repeat first|apply zN|apply zD|apply zA);exact z01.out) hb);have n1_:=zM (yT (by repeat first|(with_reducible first|exact HB.out|apply yA|apply yN|apply yD|refine yS ?_ z04.out)|exact HB.out) hb);have n2_:=zM (hbox);have n3_:=zM ((by rw [hg];exact (yZ (by repeat first|(with_reducible first|exact HB.out|apply yA|apply yN|apply yD|refine yS ?_ z04.out)|exact HB.out)) : w.heap.size ≤ z06));have n4_:=zM ((by rw [hg];exact (yZ (by repeat first|(with_reducible first|exact HB.out|apply yA|apply yN|apply yD|refine yS ?_ z04.out)|exact HB.out)) : w.heap.size ≤ z06));have n5_:=zM ((by rw [hg];exact Nat.ne_of_lt (blk_lt (g:=z02) (o:=.cells #[.int .u8 0,.int .u16 0,.int .u8 0,.string (⟨#[]⟩ : ByteArray),.int .i64 0,.int .i64 0,.int .i64 0,.int .u64 0,.bool false,.bool false] 42 (0,0)) (by (with_reducible repeat first|apply zN|apply zD|apply zA);exact z01.out)) : z02 ≠ z06));have n6_:=zM ((by rw [hg];exact Nat.ne_of_gt (blk_lt (g:=z02) (o:=.cells #[.int .u8 0,.int .u16 0,.int .u8 0,.string (⟨#[]⟩ : ByteArray),.int .i64 0,.int .i64 0,.int .i64 0,.int .u64 0,.bool false,.bool false] 42 (0,0)) (by (with_reducible repeat first|apply zN|apply zD|apply zA);exact z01.out)) : z06 ≠ z02));clear z01;clear HB;have z01:=n0_;have HB:=n1_;have z03:=n2_;have z10:=n3_;have z07:=n4_;have z00:=n5_;have z05:=n6_;clear n0_ n1_ n2_ n3_ n4_ n5_ n6_;clear hb hbox hg;have z40:=z05.out;have z41:=z00.out;obtain ⟨z2p,z2q,z2r,z2s,z2t,z2u,z2v,z2w,z2x,z2y,z2z,z30,z31,z32,z33,z34,z35,z36,z37,z38⟩:=kc10 z03.out)|((with_reducible refine gate_callee (f:=39) rfl ?_);refine goesL_ (some 27) rfl rfl Try.func39 (by kernel_rfl) rfl #[.agg #[.int .u8 a0,.int .u16 a1,.int .u8 a2,.string a3,.int .i64 a4,.int .i64 a5,.int .i64 a5,.int .u64 0,.bool false,.bool false]] rfl (by (try simp only [List.map_toArray,List.map_cons,List.map_nil]);first|done|rfl|(simp only [List.length_drop,List.length_take];rfl)) ?_;(with_reducible refine (watch_Watch_message.calls a0 a1 a2 a3 a4 a5 a5 0 false false z0t z0u z0v z0w z0x _ A7.out).mono ?_);rintro e w30 ⟨rfl,hb⟩;refine ⟨_,rfl,?_⟩;have n0_:=zM (zB (g:=z02) (o:=.cells #[.int .u8 0,.int .u16 0,.int .u8 0,.string (⟨#[]⟩ : ByteArray),.int .i64 0,.int .i64 0,.int .i64 0,.int .u64 0,.bool false,.bool false] 42 (0,0)) (by (with_reducible repeat first|apply zN|apply zD|apply zA);refine zG ?_ z00.out _;(with_reducible repeat first|apply zN|apply zD|apply zA);refine zG ?_ z00.out _;(with_reducible repeat first|apply zN|apply zD|apply zA);refine zG ?_ z00.out _;(with_reducible repeat first|apply zN|apply zD|apply zA);refine zG ?_ z00.out _;(with_reducible repeat first|apply zN|apply zD|apply zA);refine zG ?_ z00.out _;(with_reducible repeat first|apply zN|apply zD|apply zA);refine zG ?_ z00.out _;(with_reducible repeat first|apply zN|apply zD|apply zA);refine zG ?_ z00.out _;(with_reducible repeat first|apply zN|apply zD|apply zA);refine zG ?_ z00.out _;(with_reducible repeat first|apply zN|apply zD|apply zA);refine zG ?_ z00.out _;(with_reducible repeat first|apply zN|apply zD|apply zA);refine zG ?_ z00.out _;(with_reducible repeat first|apply zN|apply zD|apply zA);exact z01.out) hb);have n1_:=zM (zB (g:=z06) (o:=.cells #[.int .u8 a0,.int .u16 a1,.int .u8 a2,.string a3,.int .i64 a4,.int .i64 a5,.int .i64 a5,.int .u64 0,.bool false,.bool false] 42 (0,0)) (by (with_reducible repeat first|apply zN|apply zD|apply zA);refine zP (cs:=#[.int .u8 a0,.int .u16 a1,.int .u8 a2,.string a3,.int .i64 a4,.int .i64 a5,.int .i64 a5,.int .u64 0,.bool false,.bool false]) ?_ 9 _ rfl;(with_reducible repeat first|apply zN|apply zD|apply zA);refine zP (cs:=#[.int .u8 a0,.int .u16 a1,.int .u8 a2,.string a3,.int .i64 a4,.int .i64 a5,.int .i64 a5,.int .u64 0,.bool false,.bool false]) ?_ 8 _ rfl;(with_reducible repeat first|apply zN|apply zD|apply zA);refine zP (cs:=#[.int .u8 a0,.int .u16 a1,.int .u8 a2,.string a3,.int .i64 a4,.int .i64 a5,.int .i64 a5,.int .u64 0,.bool false,.bool false]) ?_ 7 _ rfl;(with_reducible repeat first|apply zN|apply zD|apply zA);refine zP (cs:=#[.int .u8 a0,.int .u16 a1,.int .u8 a2,.string a3,.int .i64 a4,.int .i64 a5,.int .i64 0,.int .u64 0,.bool false,.bool false]) ?_ 6 _ rfl;(with_reducible repeat first|apply zN|apply zD|apply zA);refine zP (cs:=#[.int .u8 a0,.int .u16 a1,.int .u8 a2,.string a3,.int .i64 a4,.int .i64 0,.int .i64 0,.int .u64 0,.bool false,.bool false]) ?_ 5 _ rfl;(with_reducible repeat first|apply zN|apply zD|apply zA);refine zP (cs:=#[.int .u8 a0,.int .u16 a1,.int .u8 a2,.string a3,.int .i64 0,.int .i64 0,.int .i64 0,.int .u64 0,.bool false,.bool false]) ?_ 4 _ rfl;(with_reducible repeat first|apply zN|apply zD|apply zA);refine zP (cs:=#[.int .u8 a0,.int .u16 a1,.int .u8 a2,.string (⟨#[]⟩ : ByteArray),.int .i64 0,.int .i64 0,.int .i64 0,.int .u64 0,.bool false,.bool false]) ?_ 3 _ rfl;(with_reducible repeat first|apply zN|apply zD|apply zA);refine zP (cs:=#[.int .u8 a0,.int .u16 a1,.int .u8 0,.string (⟨#[]⟩ : ByteArray),.int .i64 0,.int .i64 0,.int .i64 0,.int .u64 0,.bool false,.bool false]) ?_ 2 _ rfl;(with_reducible repeat first|apply zN|apply zD|apply zA);refine zP (cs:=#[.int .u8 a0,.int .u16 0,.int .u8 0,.string (⟨#[]⟩ : ByteArray),.int .i64 0,.int .i64 0,.int .i64 0,.int .u64 0,.bool false,.bool false]) ?_ 1 _ rfl;(with_reducible repeat first|apply zN|apply zD|apply zA);refine zP (cs:=#[.int .u8 0,.int .u16 0,.int .u8 0,.string (⟨#[]⟩ : ByteArray),.int .i64 0,.int .i64 0,.int .i64 0,.int .u64 0,.bool false,.bool false]) ?_ 0 _ rfl;(with_reducible repeat first|apply zN|apply zD|apply zA);exact z03.out) hb);have n2_:=zM (yT (by repeat (first|(with_reducible first|exact HB.out|apply yA|apply yN|apply yD|refine yS ?_ z04.out|refine yS ?_ z07.out)|exact HB.out)) hb);clear z01;clear z03;clear HB;have z01:=n0_;have z03:=n1_;have HB:=n2_;clear n0_ n1_ n2_;(try clear hb);(try clear hb2);(try clear hk);(try clear hi))|((with_reducible refine gate_callee (f:=38) rfl ?_);refine goesL_ (some 29) rfl rfl Try.func38 (by kernel_rfl) rfl #[.agg #[.bool z0t,.int .u8 z0u,.int .u32 z0v,.int .u16 z0w,.string z0x],.int .u8 a0] rfl (by (try simp only [List.map_toArray,List.map_cons,List.map_nil]);first|done|rfl|(simp only [List.length_drop,List.length_take];rfl)) ?_;(with_reducible refine (ccm_Close.calls k z0t z0u z0v z0w z0x a0 z3t z08 _ A8.out).mono ?_);rintro e w31 ⟨rfl,hb⟩;refine ⟨_,rfl,?_⟩;have n0_:=zM (zB (g:=z02) (o:=.cells #[.int .u8 0,.int .u16 0,.int .u8 0,.string (⟨#[]⟩ : ByteArray),.int .i64 0,.int .i64 0,.int .i64 0,.int .u64 0,.bool false,.bool false] 42 (0,0)) (by (with_reducible repeat first|apply zN|apply zD|apply zA);exact z01.out) hb);have n1_:=zM (zB (g:=z06) (o:=.cells #[.int .u8 a0,.int .u16 a1,.int .u8 a2,.string a3,.int .i64 a4,.int .i64 a5,.int .i64 a5,.int .u64 0,.bool false,.bool false] 42 (0,0)) (by (with_reducible repeat first|apply zN|apply zD|apply zA);exact z03.out) hb);have n2_:=zM (yT (by repeat (first|(with_reducible first|exact HB.out|apply yA|apply yN|apply yD|refine yS ?_ z04.out|refine yS ?_ z07.out)|exact HB.out)) hb);clear z01;clear z03;clear HB;have z01:=n0_;have z03:=n1_;have HB:=n2_;clear n0_ n1_ n2_;(try clear hb);(try clear hb2);(try clear hk);(try clear hi);obtain ⟨z39,z3a,z3b,z3c,z3d,z3e,z3f,z3g,z3h,z3i,z3j,z3k,z3l,z3m,z3n,z3o,z3p,z3q,z3r,z3s⟩:=kc10 z01.out))
 refine zE (results_ct rfl _ _ z02 42 #[.int .u8 0,.int .u16 0,.int .u8 0,.string (⟨#[]⟩ : ByteArray),.int .i64 0,.int .i64 0,.int .i64 0,.int .u64 0,.bool false,.bool false] (0,0) _ rfl (by (with_reducible repeat first|apply zN|apply zD|apply zA);refine zP (cs:=#[.int .u8 0,.int .u16 0,.int .u8 0,.string (⟨#[]⟩ : ByteArray),.int .i64 0,.int .i64 0,.int .i64 0,.int .u64 0,.bool false,.bool false]) ?_ 9 _ rfl;(with_reducible repeat first|apply zN|apply zD|apply zA);refine zP (cs:=#[.int .u8 0,.int .u16 0,.int .u8 0,.string (⟨#[]⟩ : ByteArray),.int .i64 0,.int .i64 0,.int .i64 0,.int .u64 0,.bool false,.bool false]) ?_ 8 _ rfl;(with_reducible repeat first|apply zN|apply zD|apply zA);refine zP (cs:=#[.int .u8 0,.int .u16 0,.int .u8 0,.string (⟨#[]⟩ : ByteArray),.int .i64 0,.int .i64 0,.int .i64 0,.int .u64 0,.bool false,.bool false]) ?_ 7 _ rfl;(with_reducible repeat first|apply zN|apply zD|apply zA);refine zP (cs:=#[.int .u8 0,.int .u16 0,.int .u8 0,.string (⟨#[]⟩ : ByteArray),.int .i64 0,.int .i64 0,.int .i64 0,.int .u64 0,.bool false,.bool false]) ?_ 6 _ rfl;(with_reducible repeat first|apply zN|apply zD|apply zA);refine zP (cs:=#[.int .u8 0,.int .u16 0,.int .u8 0,.string (⟨#[]⟩ : ByteArray),.int .i64 0,.int .i64 0,.int .i64 0,.int .u64 0,.bool false,.bool false]) ?_ 5 _ rfl;(with_reducible repeat first|apply zN|apply zD|apply zA);refine zP (cs:=#[.int .u8 0,.int .u16 0,.int .u8 0,.string (⟨#[]⟩ : ByteArray),.int .i64 0,.int .i64 0,.int .i64 0,.int .u64 0,.bool false,.bool false]) ?_ 4 _ rfl;(with_reducible repeat first|apply zN|apply zD|apply zA);refine zP (cs:=#[.int .u8 0,.int .u16 0,.int .u8 0,.string (⟨#[]⟩ : ByteArray),.int .i64 0,.int .i64 0,.int .i64 0,.int .u64 0,.bool false,.bool false]) ?_ 3 _ rfl;(with_reducible repeat first|apply zN|apply zD|apply zA);refine zP (cs:=#[.int .u8 0,.int .u16 0,.int .u8 0,.string (⟨#[]⟩ : ByteArray),.int .i64 0,.int .i64 0,.int .i64 0,.int .u64 0,.bool false,.bool false]) ?_ 2 _ rfl;(with_reducible repeat first|apply zN|apply zD|apply zA);refine zP (cs:=#[.int .u8 0,.int .u16 0,.int .u8 0,.string (⟨#[]⟩ : ByteArray),.int .i64 0,.int .i64 0,.int .i64 0,.int .u64 0,.bool false,.bool false]) ?_ 1 _ rfl;(with_reducible repeat first|apply zN|apply zD|apply zA);refine zP (cs:=#[.int .u8 0,.int .u16 0,.int .u8 0,.string (⟨#[]⟩ : ByteArray),.int .i64 0,.int .i64 0,.int .i64 0,.int .u64 0,.bool false,.bool false]) ?_ 0 _ rfl;(with_reducible repeat first|apply zN|apply zD|apply zA);exact z01.out) Try.underlying42 rfl (by kernel_rfl)) rfl ?_;exact ⟨by first|rfl|(simp [errW_none,errW_some] <;> rfl)|(simp [*,errW_none,errW_some] <;> rfl),by repeat (first|(with_reducible first|exact HB.out|apply yA|apply yN|apply yD|refine yS ?_ z04.out|refine yS ?_ z07.out)|exact HB.out)⟩

/-! ### watch_Watch_Tick: function 26 -/
def watch_Watch_Tick.j0 : Nat → Int → ByteArray → Int → Int → Int → ByteArray → Int → Int → Int → Int → Bool → Bool → Option (Int × Int × Int × ByteArray × Int × Int × Int × Int × Bool × Bool × ByteArray)
  | 0, _, _, _, _, _, _, _, _, _, _, _, _ => none
  | k + 1, x1, x6, x133000, x133001, x133002, x133003, x133004, x133005, x133006, x133007, x133008, x133009 => if (wrap64 (2 * (wrap64 (x1 - x133005)))) > (wrap64 (7 * x133004)) then (some (x133000, x133001, x133002, x133003, x133004, x133005, x133006, x133007, true, x133009, x6)) else (some (x133000, x133001, x133002, x133003, x133004, x133005, x133006, x133007, x133008, x133009, x6))
def watch_Watch_Tick.f (k : Nat) (a0_0 : Int) (a0_1 : Int) (a0_2 : Int) (a0_3 : ByteArray) (a0_4 : Int) (a0_5 : Int) (a0_6 : Int) (a0_7 : Int) (a0_8 : Bool) (a0_9 : Bool) (a1 : Int) : Option (Int × Int × Int × ByteArray × Int × Int × Int × Int × Bool × Bool × ByteArray) := if a1 ≥ a0_6 then ((watch_Watch_message.f a0_0 a0_1 a0_2 a0_3 a0_4 a0_5 a0_6 a0_7 a0_8 a0_9).bind fun bt134 => ((ccm_Close.f k bt134.1 bt134.2.1 bt134.2.2.1 bt134.2.2.2.1 bt134.2.2.2.2 a0_0).bind fun bt139 => (watch_Watch_Tick.j0 k a1 bt139.1 a0_0 a0_1 a0_2 a0_3 a0_4 a0_5 (wrap64 (a1 + a0_4)) (IntKind.u64.wrap (a0_7 + 1)) a0_8 a0_9))) else (watch_Watch_Tick.j0 k a1 (⟨#[]⟩ : ByteArray) a0_0 a0_1 a0_2 a0_3 a0_4 a0_5 a0_6 a0_7 a0_8 a0_9)
theorem watch_Watch_Tick.mono_l : ∀ k, (∀ y0 y1 y2 y3 y4 y5 y6 y7 y8 y9 y10 y11, LeO (watch_Watch_Tick.j0 k y0 y1 y2 y3 y4 y5 y6 y7 y8 y9 y10 y11) (watch_Watch_Tick.j0 (k + 1) y0 y1 y2 y3 y4 y5 y6 y7 y8 y9 y10 y11))
 | 0 => fun _ _ _ _ _ _ _ _ _ _ _ _ r h => by simp [watch_Watch_Tick.j0] at h
 | k + 1 => by
  have ih0 := watch_Watch_Tick.mono_l k
  intro y0 y1 y2 y3 y4 y5 y6 y7 y8 y9 y10 y11
  unfold watch_Watch_Tick.j0
  repeat' first
  | (with_reducible exact ih0 _ _ _ _ _ _ _ _ _ _ _ _)
  | (with_reducible exact ccm_Close.mono _ _ _ _ _ _ _)
  | (with_reducible exact LeO.refl _)
  | (with_reducible exact LeO.none _)
  | (with_reducible refine LeO.ite ?_ ?_)
  | (with_reducible refine LeO.bind ?_ (fun _ => ?_))
  | exact ih0 _ _ _ _ _ _ _ _ _ _ _ _
  | exact ccm_Close.mono _ _ _ _ _ _ _
  | exact LeO.none _
  | refine LeO.ite ?_ ?_
  | refine LeO.bind ?_ (fun _ => ?_)
theorem watch_Watch_Tick.mono : ∀ a0 a1 a2 a3 a4 a5 a6 a7 a8 a9 a10 k, LeO (watch_Watch_Tick.f k a0 a1 a2 a3 a4 a5 a6 a7 a8 a9 a10) (watch_Watch_Tick.f (k + 1) a0 a1 a2 a3 a4 a5 a6 a7 a8 a9 a10) := by
 intro a0 a1 a2 a3 a4 a5 a6 a7 a8 a9 a10 k;have ih0:=watch_Watch_Tick.mono_l k;unfold watch_Watch_Tick.f
 repeat' first
  | (with_reducible exact ih0 _ _ _ _ _ _ _ _ _ _ _ _)
  | (with_reducible exact ccm_Close.mono _ _ _ _ _ _ _)
  | (with_reducible exact LeO.refl _)
  | (with_reducible exact LeO.none _)
  | (with_reducible refine LeO.ite ?_ ?_)
  | (with_reducible refine LeO.bind ?_ (fun _ => ?_))
  | exact ih0 _ _ _ _ _ _ _ _ _ _ _ _
  | exact ccm_Close.mono _ _ _ _ _ _ _
  | exact LeO.none _
  | refine LeO.ite ?_ ?_
  | refine LeO.bind ?_ (fun _ => ?_)
def watch_Watch_Tick.T3 : Bool × List (List Nat × List Nat) := (true, [([], []), ([0], [0]), ([], []), ([2], [2]), ([1, 3, 1], [1, 3]), ([4], [4]), ([5], [5]), ([5], [5]), ([6, 4, 0, 1, 2, 3, 4, 5, 6], [6])])
def watch_Watch_Tick.B3 : List Nat := [0, 1, 0, 4, 15, 31, 63, 63, 127]
theorem watch_Watch_Tick.tab3 : rtab .any (opsOf Try.f26 3) = watch_Watch_Tick.T3 := by kernel_rfl
theorem watch_Watch_Tick.bits3 : waitsOk watch_Watch_Tick.T3.2 watch_Watch_Tick.B3 = true := by kernel_rfl
set_option maxHeartbeats 8000000 in
set_option maxRecDepth 100000 in
theorem watch_Watch_Tick.calls (k : Nat) (a0_0 : Int) (a0_1 : Int) (a0_2 : Int) (a0_3 : ByteArray) (a0_4 : Int) (a0_5 : Int) (a0_6 : Int) (a0_7 : Int) (a0_8 : Bool) (a0_9 : Bool) (a1 : Int) (r1 : Int) (r2 : Int) (r3 : Int) (r4 : ByteArray) (r5 : Int) (r6 : Int) (r7 : Int) (r8 : Int) (r9 : Bool) (r10 : Bool) (r11 : ByteArray) (w : World) (h : watch_Watch_Tick.f k a0_0 a0_1 a0_2 a0_3 a0_4 a0_5 a0_6 a0_7 a0_8 a0_9 a1 = some (r1, r2, r3, r4, r5, r6, r7, r8, r9, r10, r11)) :
  Calls Try.prog 26 #[.agg #[.int .u8 a0_0, .int .u16 a0_1, .int .u8 a0_2, .string a0_3, .int .i64 a0_4, .int .i64 a0_5, .int .i64 a0_6, .int .u64 a0_7, .bool a0_8, .bool a0_9], .int .i64 a1] w fun e w' => e = .returned (.tuple #[.agg #[.int .u8 r1, .int .u16 r2, .int .u8 r3, .string r4, .int .i64 r5, .int .i64 r6, .int .i64 r7, .int .u64 r8, .bool r9, .bool r10], .string r11]) ∧ Below w.heap.size w w' := by
 have hu42:=Try.underlying42;have HB:=zM (Below.refl w.heap.size w);have H : (if a1 ≥ a0_6 then ((watch_Watch_message.f a0_0 a0_1 a0_2 a0_3 a0_4 a0_5 a0_6 a0_7 a0_8 a0_9).bind fun bt134 => ((ccm_Close.f k bt134.1 bt134.2.1 bt134.2.2.1 bt134.2.2.2.1 bt134.2.2.2.2 a0_0).bind fun bt139 => (watch_Watch_Tick.j0 k a1 bt139.1 a0_0 a0_1 a0_2 a0_3 a0_4 a0_5 (wrap64 (a1 + a0_4)) (IntKind.u64.wrap (a0_7 + 1)) a0_8 a0_9))) else (watch_Watch_Tick.j0 k a1 (⟨#[]⟩ : ByteArray) a0_0 a0_1 a0_2 a0_3 a0_4 a0_5 a0_6 a0_7 a0_8 a0_9)) = some (r1,r2,r3,r4,r5,r6,r7,r8,r9,r10,r11):=h;clear h;have HC3:=zM H;clear H;go_enter Try.func26,Try.ntmps26
 go_upto_if 10 with (first|((with_reducible refine gate_dst (N:=2) rfl ?_);refine box_event ?hg (N:=2) ?hd (cs:=#[.int .u8 a0_0,.int .u16 a0_1,.int .u8 a0_2,.string a0_3,.int .i64 a0_4,.int .i64 a0_5,.int .i64 a0_6,.int .u64 a0_7,.bool a0_8,.bool a0_9]) (t:=42) ?hr ?_;(case hd => rfl);(case hg => rfl);(case hr => first|(go_simp;done)|(go_simp;rfl));intro z04 hg w4 hbox hb;have n0_:=zM (yT (by repeat first|(with_reducible first|exact HB.out|apply yA|apply yN|apply yD)|exact HB.out) hb);have n1_:=zM (hbox);have n2_:=zM ((by rw [hg];exact (yZ (by repeat first|(with_reducible first|exact HB.out|apply yA|apply yN|apply yD)|exact HB.out)) : w.heap.size ≤ z04));have n3_:=zM ((by rw [hg];exact (yZ (by repeat first|(with_reducible first|exact HB.out|apply yA|apply yN|apply yD)|exact HB.out)) : w.heap.size ≤ z04));clear HB;have HB:=n0_;have z00:=n1_;have z3s:=n2_;have z07:=n3_;clear n0_ n1_ n2_ n3_;clear hb hbox hg)|((with_reducible refine gate_dst (N:=4) rfl ?_);refine box_event ?hg (N:=4) ?hd (cs:=#[.int .u8 0,.int .u16 0,.int .u8 0,.string (⟨#[]⟩ : ByteArray),.int .i64 0,.int .i64 0,.int .i64 0,.int .u64 0,.bool false,.bool false]) (t:=42) ?hr ?_;(case hd => rfl);(case hg => rfl);(case hr => first|(go_simp;done)|(go_simp;rfl));intro z08 hg w5 hbox hb;have n0_:=zM (zB (g:=z04) (o:=.cells #[.int .u8 a0_0,.int .u16 a0_1,.int .u8 a0_2,.string a0_3,.int .i64 a0_4,.int .i64 a0_5,.int .i64 a0_6,.int .u64 a0_7,.bool a0_8,.bool a0_9] 42 (0,0)) (by (with_reducible repeat first|apply zN|apply zD|apply zA);exact z00.out) hb);have n1_:=zM (yT (by repeat first|(with_reducible first|exact HB.out|apply yA|apply yN|apply yD|refine yS ?_ z07.out)|exact HB.out) hb);have n2_:=zM (hbox);have n3_:=zM ((by rw [hg];exact (yZ (by repeat first|(with_reducible first|exact HB.out|apply yA|apply yN|apply yD|refine yS ?_ z07.out)|exact HB.out)) : w.heap.size ≤ z08));have n4_:=zM ((by rw [hg];exact (yZ (by repeat first|(with_reducible first|exact HB.out|apply yA|apply yN|apply yD|refine yS ?_ z07.out)|exact HB.out)) : w.heap.size ≤ z08));have n5_:=zM ((by rw [hg];exact Nat.ne_of_lt (blk_lt (g:=z04) (o:=.cells #[.int .u8 a0_0,.int .u16 a0_1,.int .u8 a0_2,.string a0_3,.int .i64 a0_4,.int .i64 a0_5,.int .i64 a0_6,.int .u64 a0_7,.bool a0_8,.bool a0_9] 42 (0,0)) (by (with_reducible repeat first|apply zN|apply zD|apply zA);exact z00.out)) : z04 ≠ z08));have n6_:=zM ((by rw [hg];exact Nat.ne_of_gt (blk_lt (g:=z04) (o:=.cells #[.int .u8 a0_0,.int .u16 a0_1,.int .u8 a0_2,.string a0_3,.int .i64 a0_4,.int .i64 a0_5,.int .i64 a0_6,.int .u64 a0_7,.bool a0_8,.bool a0_9] 42 (0,0)) (by (with_reducible repeat first|apply zN|apply zD|apply zA);exact z00.out)) : z08 ≠ z04));clear z00;clear HB;have z00:=n0_;have HB:=n1_;have z05:=n2_;have z3t:=n3_;have z09:=n4_;have z06:=n5_;have z03:=n6_;clear n0_ n1_ n2_ n3_ n4_ n5_ n6_;clear hb hbox hg;have z41:=z06.out;have z42:=z03.out;obtain ⟨z0u,z0v,z0w,z0x,z0y,z0z,z10,z11,z12,z13,z14,z15,z16,z17,z18,z19,z1a,z1b,z1c,z1d⟩:=kc10 z00.out))
 (try simp only [Act.put,sA,sB,sC])
 go_cut [6] (fun v6 wc => ∃ (kq : Nat) (x6_2 : ByteArray) (z01 : Int) (z02 : Int),v6 = .string x6_2 ∧ Aside0 (watch_Watch_Tick.j0 kq a1 x6_2 a0_0 a0_1 a0_2 a0_3 a0_4 a0_5 z01 z02 a0_8 a0_9 = some (r1,r2,r3,r4,r5,r6,r7,r8,r9,r10,r11)) ∧ Aside0 (kq ≤ k) ∧ Aside0 (wc.heap[z04]? = some (.cells #[.int .u8 a0_0,.int .u16 a0_1,.int .u8 a0_2,.string a0_3,.int .i64 a0_4,.int .i64 a0_5,.int .i64 z01,.int .u64 z02,.bool a0_8,.bool a0_9] 42 (0,0))) ∧ Aside0 (wc.heap[z08]? = some (.cells #[.int .u8 0,.int .u16 0,.int .u8 0,.string (⟨#[]⟩ : ByteArray),.int .i64 0,.int .i64 0,.int .i64 0,.int .u64 0,.bool false,.bool false] 42 (0,0))) ∧ Aside0 (Below w.heap.size w wc))
 case first =>
  have H:=HC3.out;clear HC3;by_cases c8 : a1 ≥ a0_6
  ·
   rw [if_pos c8] at H;have c8b0 : decide (a0_6 ≤ a1) = true:=dT c8;clear c8;(first|rw [c8b0]|(simp only [i64_w,i32_w];rw [c8b0])|skip)
   replace H:=Option.bind_eq_some_iff.mp H;obtain ⟨⟨z1e,z1f,z1g,z1h,z1i⟩,A90,H⟩:=H;try dsimp only at H
   have A9:=zM A90;clear A90;replace H:=Option.bind_eq_some_iff.mp H;obtain ⟨⟨z3r,z3u⟩,A100,H⟩:=H;try dsimp only at H
   have A10:=zM A100;clear A100;have H':=zM H;clear H;try go_wp2
   have n0_:=zM (zD z00.out);have n1_:=zM (zD z05.out);have n2_:=zM (yD HB.out);clear z00;clear z05;clear HB;have z00:=n0_;have z05:=n1_;have HB:=n2_;clear n0_ n1_ n2_;refine start_ (n:=9) (S:=fun w' => w'.cell? ⟨z04,0,none⟩ = some (.int .u8 a0_0) ∧ w'.cell? ⟨z04,1,none⟩ = some (.int .u16 a0_1) ∧ w'.cell? ⟨z04,2,none⟩ = some (.int .u8 a0_2) ∧ w'.cell? ⟨z04,3,none⟩ = some (.string a0_3) ∧ w'.cell? ⟨z04,4,none⟩ = some (.int .i64 a0_4) ∧ w'.cell? ⟨z04,5,none⟩ = some (.int .i64 a0_5) ∧ w'.cell? ⟨z04,6,none⟩ = some (.int .i64 a0_6) ∧ w'.cell? ⟨z04,7,none⟩ = some (.int .u64 a0_7) ∧ w'.cell? ⟨z04,8,none⟩ = some (.bool a0_8) ∧ w'.cell? ⟨z04,9,none⟩ = some (.bool a0_9)) (ds:=[]) #[false,false,false,false,false,false,false,false,false] (by kernel_rfl) rfl rfl ⟨(zC z00.out 0).trans rfl,(zC z00.out 1).trans rfl,(zC z00.out 2).trans rfl,(zC z00.out 3).trans rfl,(zC z00.out 4).trans rfl,(zC z00.out 5).trans rfl,(zC z00.out 6).trans rfl,(zC z00.out 7).trans rfl,(zC z00.out 8).trans rfl,(zC z00.out 9).trans rfl⟩ (fun hHeld => ?_);refine with_tabW watch_Watch_Tick.tab3 watch_Watch_Tick.bits3 (fun HT_ HW_ => ?_);generalize w5.drew = w11 at z00 z05 HB hHeld ⊢
   refine pure_ (i:=2) (N:=some 14) (v:=?_) (a':=?_) #[false,false,true,false,false,false,false,false,false] rfl rfl (any_of HT_.out (by kernel_rfl)) (fun _ _ _ h => h) (Or.inl ⟨by rfl,?_⟩) ?_ ?_;rotate_left
   ·
    intro w';go_simp;with_reducible rfl
   rotate_left
   ·
    simp only [Act.put,sA,sB,sC,i64_w,i32_w];rfl
   refine take_ (i:=0) (N:=some 12) (v:=?_) (a':=?_) #[true,false,true,false,false,false,false,false,false] rfl rfl (take_ofW HT_.out HW_.out (by kernel_rfl)) (fun _ _ _ h => h) (Or.inl ⟨by rfl,?_⟩) hHeld ?_ ?_;rotate_left
   ·
    rintro w' ⟨s0,s1,s2,s3,s4,s5,s6,s7,s8,s9⟩
    go_simp;with_reducible rfl
   rotate_left
   ·
    simp only [Act.put,sA,sB,sC,i64_w,i32_w];rfl
   refine take_ (i:=3) (N:=some 15) (v:=?_) (a':=?_) #[true,false,true,true,false,false,false,false,false] rfl rfl (take_ofW HT_.out HW_.out (by kernel_rfl)) (fun _ _ _ h => h) (Or.inl ⟨by rfl,?_⟩) hHeld ?_ ?_;rotate_left
   ·
    rintro w' ⟨s0,s1,s2,s3,s4,s5,s6,s7,s8,s9⟩
    go_simp;with_reducible rfl
   rotate_left
   ·
    simp only [Act.put,sA,sB,sC,i64_w,i32_w];rfl
   refine one_ (i:=1) (N:=some 13) #[true,true,true,true,false,false,false,false,false] rfl rfl (one_of HT_.out (by kernel_rfl)) (by decide) (fun K hK => ?_);refine goes_ Try.func39 (by kernel_rfl) rfl #[.agg #[.int .u8 a0_0,.int .u16 a0_1,.int .u8 a0_2,.string a0_3,.int .i64 a0_4,.int .i64 a0_5,.int .i64 a0_6,.int .u64 a0_7,.bool a0_8,.bool a0_9]] (by rfl) rfl rfl (by (try simp only [List.map_toArray,List.map_cons,List.map_nil]);first|done|rfl|(simp only [List.length_drop,List.length_take];rfl)) ?_;with_reducible refine (watch_Watch_message.calls a0_0 a0_1 a0_2 a0_3 a0_4 a0_5 a0_6 a0_7 a0_8 a0_9 z1e z1f z1g z1h z1i _ A9.out).mono ?_
   rintro e w12 ⟨rfl,hb⟩
   refine ⟨_,rfl,?_⟩;have n0_:=zM (zB (g:=z04) (o:=.cells #[.int .u8 a0_0,.int .u16 a0_1,.int .u8 a0_2,.string a0_3,.int .i64 a0_4,.int .i64 a0_5,.int .i64 a0_6,.int .u64 a0_7,.bool a0_8,.bool a0_9] 42 (0,0)) (by (with_reducible repeat first|apply zN|apply zD|apply zA);exact z00.out) hb);have n1_:=zM (zB (g:=z08) (o:=.cells #[.int .u8 0,.int .u16 0,.int .u8 0,.string (⟨#[]⟩ : ByteArray),.int .i64 0,.int .i64 0,.int .i64 0,.int .u64 0,.bool false,.bool false] 42 (0,0)) (by (with_reducible repeat first|apply zN|apply zD|apply zA);exact z05.out) hb);have n2_:=zM (yT (by repeat (first|(with_reducible first|exact HB.out|apply yA|apply yN|apply yD|refine yS ?_ z07.out|refine yS ?_ z09.out)|exact HB.out)) hb);clear z00;clear z05;clear HB;have z00:=n0_;have z05:=n1_;have HB:=n2_;clear n0_ n1_ n2_;(try clear hb)
   (try clear hb2)
   (try clear hk)
   (try clear hi)
   refine hK.out _ _ ⟨(zC z00.out 0).trans rfl,(zC z00.out 1).trans rfl,(zC z00.out 2).trans rfl,(zC z00.out 3).trans rfl,(zC z00.out 4).trans rfl,(zC z00.out 5).trans rfl,(zC z00.out 6).trans rfl,(zC z00.out 7).trans rfl,(zC z00.out 8).trans rfl,(zC z00.out 9).trans rfl⟩ (fun hHeld => ?_);clear hK K;refine norm_ (a':=?_) ?_ ?_;rotate_left
   ·
    show Act.put _ (some 13) _ = _
    simp only [Act.put,sA,sB,sC,i64_w,i32_w];rfl
   refine one_ (i:=4) (N:=some 16) #[true,true,true,true,true,false,false,false,false] rfl rfl (one_of HT_.out (by kernel_rfl)) (by decide) (fun K hK => ?_);refine goes_ Try.func38 (by kernel_rfl) rfl #[.agg #[.bool z1e,.int .u8 z1f,.int .u32 z1g,.int .u16 z1h,.string z1i],.int .u8 a0_0] (by rfl) rfl rfl (by (try simp only [List.map_toArray,List.map_cons,List.map_nil]);first|done|rfl|(simp only [List.length_drop,List.length_take];rfl)) ?_;with_reducible refine (ccm_Close.calls k z1e z1f z1g z1h z1i a0_0 z3r z3u _ A10.out).mono ?_
   rintro e w13 ⟨rfl,hb⟩
   refine ⟨_,rfl,?_⟩;have n0_:=zM (zB (g:=z04) (o:=.cells #[.int .u8 a0_0,.int .u16 a0_1,.int .u8 a0_2,.string a0_3,.int .i64 a0_4,.int .i64 a0_5,.int .i64 a0_6,.int .u64 a0_7,.bool a0_8,.bool a0_9] 42 (0,0)) (by (with_reducible repeat first|apply zN|apply zD|apply zA);exact z00.out) hb);have n1_:=zM (zB (g:=z08) (o:=.cells #[.int .u8 0,.int .u16 0,.int .u8 0,.string (⟨#[]⟩ : ByteArray),.int .i64 0,.int .i64 0,.int .i64 0,.int .u64 0,.bool false,.bool false] 42 (0,0)) (by (with_reducible repeat first|apply zN|apply zD|apply zA);exact z05.out) hb);have n2_:=zM (yT (by repeat (first|(with_reducible first|exact HB.out|apply yA|apply yN|apply yD|refine yS ?_ z07.out|refine yS ?_ z09.out)|exact HB.out)) hb);clear z00;clear z05;clear HB;have z00:=n0_;have z05:=n1_;have HB:=n2_;clear n0_ n1_ n2_;(try clear hb)
   (try clear hb2)
   (try clear hk)
   (try clear hi)
   refine hK.out _ _ ⟨(zC z00.out 0).trans rfl,(zC z00.out 1).trans rfl,(zC z00.out 2).trans rfl,(zC z00.out 3).trans rfl,(zC z00.out 4).trans rfl,(zC z00.out 5).trans rfl,(zC z00.out 6).trans rfl,(zC z00.out 7).trans rfl,(zC z00.out 8).trans rfl,(zC z00.out 9).trans rfl⟩ (fun hHeld => ?_);clear hK K;refine norm_ (a':=?_) ?_ ?_;rotate_left
   ·
    show Act.put _ (some 16) _ = _
    simp only [Act.put,sA,sB,sC,i64_w,i32_w];rfl
   refine pure_ (i:=5) (N:=some 11) (v:=?_) (a':=?_) #[true,true,true,true,true,true,false,false,false] rfl rfl (any_of HT_.out (by kernel_rfl)) (fun _ _ _ h => h) (Or.inl ⟨by rfl,?_⟩) ?_ ?_;rotate_left
   ·
    intro w';go_simp;with_reducible rfl
   rotate_left
   ·
    simp only [Act.put,sA,sB,sC,i64_w,i32_w];rfl
   refine pure_ (i:=6) (N:=some 17) (v:=?_) (a':=?_) #[true,true,true,true,true,true,true,false,false] rfl rfl (any_of HT_.out (by kernel_rfl)) (fun _ _ _ h => h) (Or.inl ⟨by rfl,?_⟩) ?_ ?_;rotate_left
   ·
    intro w';go_simp;with_reducible rfl
   rotate_left
   ·
    simp only [Act.put,sA,sB,sC,i64_w,i32_w];rfl
   refine pure_ (i:=7) (N:=some 18) (v:=?_) (a':=?_) #[true,true,true,true,true,true,true,true,false] rfl rfl (any_of HT_.out (by kernel_rfl)) (fun _ _ _ h => h) (Or.inl ⟨by rfl,?_⟩) ?_ ?_;rotate_left
   ·
    intro w';go_simp;with_reducible rfl
   rotate_left
   ·
    simp only [Act.put,sA,sB,sC,i64_w,i32_w];rfl
   refine pure_ (i:=8) (N:=some 6) (v:=?_) (a':=?_) #[true,true,true,true,true,true,true,true,true] rfl rfl (any_of HT_.out (by kernel_rfl)) (fun _ _ _ h => h) (Or.inl ⟨by rfl,?_⟩) ?_ ?_;rotate_left
   ·
    intro w';go_simp;with_reducible rfl
   rotate_left
   ·
    simp only [Act.put,sA,sB,sC,i64_w,i32_w];rfl
   refine done_ (done_of HT_.out (by kernel_rfl)) ?_;have z3v:=z06.out;have z3w:=z03.out;obtain ⟨z0a,z0b,z0c,z0d,z0e,z0f,z0g,z0h,z0i,z0j,z0k,z0l,z0m,z0n,z0o,z0p,z0q,z0r,z0s,z0t⟩:=kc10 z00.out;try go_wp2
   go_meet
   case rel => exact ⟨_,(z3r),(wrap64 (a1 + a0_4)),(IntKind.u64.wrap (a0_7 + 1)),(by first|rfl|(simp;done)|(simp [*];done)),H',⟨by first|omega|exact Nat.le_refl _⟩,⟨by (with_reducible repeat first|apply zN|apply zD|apply zA);refine zP (cs:=#[.int .u8 a0_0,.int .u16 a0_1,.int .u8 a0_2,.string a0_3,.int .i64 a0_4,.int .i64 a0_5,.int .i64 a0_6,.int .u64 (IntKind.u64.wrap (a0_7 + 1)),.bool a0_8,.bool a0_9]) ?_ 6 _ rfl;(with_reducible repeat first|apply zN|apply zD|apply zA);refine zP (cs:=#[.int .u8 a0_0,.int .u16 a0_1,.int .u8 a0_2,.string a0_3,.int .i64 a0_4,.int .i64 a0_5,.int .i64 a0_6,.int .u64 a0_7,.bool a0_8,.bool a0_9]) ?_ 7 _ rfl;(with_reducible repeat first|apply zN|apply zD|apply zA);exact z00.out⟩,⟨by (with_reducible repeat first|apply zN|apply zD|apply zA);refine zG ?_ z03.out _;(with_reducible repeat first|apply zN|apply zD|apply zA);refine zG ?_ z03.out _;(with_reducible repeat first|apply zN|apply zD|apply zA);exact z05.out⟩,⟨by repeat (first|(with_reducible first|exact HB.out|apply yA|apply yN|apply yD|refine yS ?_ z07.out|refine yS ?_ z09.out)|exact HB.out)⟩⟩
  rw [if_neg c8] at H;have c8b0 : decide (a0_6 ≤ a1) = false:=dF c8;clear c8;(first|rw [c8b0]|(simp only [i64_w,i32_w];rw [c8b0])|skip)
  have H':=zM H;clear H;go_wp2;go_meet
  case rel => exact ⟨_,((⟨#[]⟩ : ByteArray)),(a0_6),(a0_7),(by first|rfl|(simp;done)|(simp [*];done)),H',⟨by first|omega|exact Nat.le_refl _⟩,⟨by (with_reducible repeat first|apply zN|apply zD|apply zA);exact z00.out⟩,⟨by (with_reducible repeat first|apply zN|apply zD|apply zA);exact z05.out⟩,⟨by repeat (first|(with_reducible first|exact HB.out|apply yA|apply yN|apply yD|refine yS ?_ z07.out|refine yS ?_ z09.out)|exact HB.out)⟩⟩
 case rest =>
  clear HC3;try clear c1
  try clear c2
  try clear p2
  try clear c3
  try clear c6
  try clear p6
  try clear c8
  try clear c8b0
  try clear c14
  try clear z0a
  try clear z0b
  try clear z0c
  try clear z0d
  try clear z0e
  try clear z0f
  try clear z0g
  try clear z0h
  try clear z0i
  try clear z0j
  try clear z0u
  try clear z0v
  try clear z0w
  try clear z0x
  try clear z0y
  try clear z0z
  try clear z10
  try clear z11
  try clear z12
  try clear z13
  try clear z0k
  try clear z0l
  try clear z0m
  try clear z0n
  try clear z0o
  try clear z0p
  try clear z0q
  try clear z0r
  try clear z0s
  try clear z0t
  try clear z14
  try clear z15
  try clear z16
  try clear z17
  try clear z18
  try clear z19
  try clear z1a
  try clear z1b
  try clear z1c
  try clear z1d
  obtain ⟨kq,x6_2,z01,z02,rfl,HA,HJ2,z00,z05,HB⟩:=hcut;cases kq with
 | zero => exact absurd HA.out (by simp [watch_Watch_Tick.j0])
 | succ kj2 =>
   have H:=HA.out;clear HA;simp only [watch_Watch_Tick.j0] at H;by_cases c16 : (wrap64 (2 * (wrap64 (a1 - a0_5)))) > (wrap64 (7 * a0_4))
   ·
    rw [if_pos c16] at H;have c16b0 : decide ((wrap64 (7 * a0_4)) < (wrap64 (2 * (wrap64 (a1 - a0_5))))) = true:=dT c16;clear c16;simp only [Option.some.injEq,Prod.mk.injEq] at H;obtain ⟨rfl,rfl,rfl,rfl,rfl,rfl,rfl,rfl,rfl,rfl,rfl⟩:=H;have z3x:=z06.out;have z3y:=z03.out;obtain ⟨z1j,z1k,z1l,z1m,z1n,z1o,z1p,z1q,z1r,z1s,z1t,z1u,z1v,z1w,z1x,z1y,z1z,z20,z21,z22⟩:=kc10 z00.out;obtain ⟨z23,z24,z25,z26,z27,z28,z29,z2a,z2b,z2c,z2d,z2e,z2f,z2g,z2h,z2i,z2j,z2k,z2l,z2m⟩:=kc10 z05.out;go_wp2;refine zE (results_ct rfl _ _ z08 42 #[.int .u8 a0_0,.int .u16 a0_1,.int .u8 a0_2,.string a0_3,.int .i64 a0_4,.int .i64 a0_5,.int .i64 z01,.int .u64 z02,.bool true,.bool a0_9] (0,0) _ rfl (by (with_reducible repeat first|apply zN|apply zD|apply zA);refine zP (cs:=#[.int .u8 a0_0,.int .u16 a0_1,.int .u8 a0_2,.string a0_3,.int .i64 a0_4,.int .i64 a0_5,.int .i64 z01,.int .u64 z02,.bool true,.bool false]) ?_ 9 _ rfl;(with_reducible repeat first|apply zN|apply zD|apply zA);refine zP (cs:=#[.int .u8 a0_0,.int .u16 a0_1,.int .u8 a0_2,.string a0_3,.int .i64 a0_4,.int .i64 a0_5,.int .i64 z01,.int .u64 z02,.bool false,.bool false]) ?_ 8 _ rfl;(with_reducible repeat first|apply zN|apply zD|apply zA);refine zP (cs:=#[.int .u8 a0_0,.int .u16 a0_1,.int .u8 a0_2,.string a0_3,.int .i64 a0_4,.int .i64 a0_5,.int .i64 z01,.int .u64 0,.bool false,.bool false]) ?_ 7 _ rfl;(with_reducible repeat first|apply zN|apply zD|apply zA);refine zP (cs:=#[.int .u8 a0_0,.int .u16 a0_1,.int .u8 a0_2,.string a0_3,.int .i64 a0_4,.int .i64 a0_5,.int .i64 0,.int .u64 0,.bool false,.bool false]) ?_ 6 _ rfl;(with_reducible repeat first|apply zN|apply zD|apply zA);refine zP (cs:=#[.int .u8 a0_0,.int .u16 a0_1,.int .u8 a0_2,.string a0_3,.int .i64 a0_4,.int .i64 0,.int .i64 0,.int .u64 0,.bool false,.bool false]) ?_ 5 _ rfl;(with_reducible repeat first|apply zN|apply zD|apply zA);refine zP (cs:=#[.int .u8 a0_0,.int .u16 a0_1,.int .u8 a0_2,.string a0_3,.int .i64 0,.int .i64 0,.int .i64 0,.int .u64 0,.bool false,.bool false]) ?_ 4 _ rfl;(with_reducible repeat first|apply zN|apply zD|apply zA);refine zP (cs:=#[.int .u8 a0_0,.int .u16 a0_1,.int .u8 a0_2,.string (⟨#[]⟩ : ByteArray),.int .i64 0,.int .i64 0,.int .i64 0,.int .u64 0,.bool false,.bool false]) ?_ 3 _ rfl;(with_reducible repeat first|apply zN|apply zD|apply zA);refine zP (cs:=#[.int .u8 a0_0,.int .u16 a0_1,.int .u8 0,.string (⟨#[]⟩ : ByteArray),.int .i64 0,.int .i64 0,.int .i64 0,.int .u64 0,.bool false,.bool false]) ?_ 2 _ rfl;(with_reducible repeat first|apply zN|apply zD|apply zA);refine zP (cs:=#[.int .u8 a0_0,.int .u16 0,.int .u8 0,.string (⟨#[]⟩ : ByteArray),.int .i64 0,.int .i64 0,.int .i64 0,.int .u64 0,.bool false,.bool false]) ?_ 1 _ rfl;(with_reducible repeat first|apply zN|apply zD|apply zA);refine zP (cs:=#[.int .u8 0,.int .u16 0,.int .u8 0,.string (⟨#[]⟩ : ByteArray),.int .i64 0,.int .i64 0,.int .i64 0,.int .u64 0,.bool false,.bool false]) ?_ 0 _ rfl;(with_reducible repeat first|apply zN|apply zD|apply zA);refine zG ?_ z03.out _;(with_reducible repeat first|apply zN|apply zD|apply zA);exact z05.out) Try.underlying42 rfl (by kernel_rfl)) rfl ?_;exact ⟨by first|rfl|(simp [errW_none,errW_some] <;> rfl)|(simp [*,errW_none,errW_some] <;> rfl),by repeat (first|(with_reducible first|exact HB.out|apply yA|apply yN|apply yD|refine yS ?_ z07.out|refine yS ?_ z09.out)|exact HB.out)⟩
   rw [if_neg c16] at H;have c16b0 : decide ((wrap64 (7 * a0_4)) < (wrap64 (2 * (wrap64 (a1 - a0_5))))) = false:=dF c16;clear c16;simp only [Option.some.injEq,Prod.mk.injEq] at H;obtain ⟨rfl,rfl,rfl,rfl,rfl,rfl,rfl,rfl,rfl,rfl,rfl⟩:=H;have z3z:=z06.out;have z40:=z03.out;obtain ⟨z2n,z2o,z2p,z2q,z2r,z2s,z2t,z2u,z2v,z2w,z2x,z2y,z2z,z30,z31,z32,z33,z34,z35,z36⟩:=kc10 z00.out;obtain ⟨z37,z38,z39,z3a,z3b,z3c,z3d,z3e,z3f,z3g,z3h,z3i,z3j,z3k,z3l,z3m,z3n,z3o,z3p,z3q⟩:=kc10 z05.out;go_wp2;refine zE (results_ct rfl _ _ z08 42 #[.int .u8 a0_0,.int .u16 a0_1,.int .u8 a0_2,.string a0_3,.int .i64 a0_4,.int .i64 a0_5,.int .i64 z01,.int .u64 z02,.bool a0_8,.bool a0_9] (0,0) _ rfl (by (with_reducible repeat first|apply zN|apply zD|apply zA);refine zP (cs:=#[.int .u8 a0_0,.int .u16 a0_1,.int .u8 a0_2,.string a0_3,.int .i64 a0_4,.int .i64 a0_5,.int .i64 z01,.int .u64 z02,.bool a0_8,.bool false]) ?_ 9 _ rfl;(with_reducible repeat first|apply zN|apply zD|apply zA);refine zP (cs:=#[.int .u8 a0_0,.int .u16 a0_1,.int .u8 a0_2,.string a0_3,.int .i64 a0_4,.int .i64 a0_5,.int .i64 z01,.int .u64 z02,.bool false,.bool false]) ?_ 8 _ rfl;(with_reducible repeat first|apply zN|apply zD|apply zA);refine zP (cs:=#[.int .u8 a0_0,.int .u16 a0_1,.int .u8 a0_2,.string a0_3,.int .i64 a0_4,.int .i64 a0_5,.int .i64 z01,.int .u64 0,.bool false,.bool false]) ?_ 7 _ rfl;(with_reducible repeat first|apply zN|apply zD|apply zA);refine zP (cs:=#[.int .u8 a0_0,.int .u16 a0_1,.int .u8 a0_2,.string a0_3,.int .i64 a0_4,.int .i64 a0_5,.int .i64 0,.int .u64 0,.bool false,.bool false]) ?_ 6 _ rfl;(with_reducible repeat first|apply zN|apply zD|apply zA);refine zP (cs:=#[.int .u8 a0_0,.int .u16 a0_1,.int .u8 a0_2,.string a0_3,.int .i64 a0_4,.int .i64 0,.int .i64 0,.int .u64 0,.bool false,.bool false]) ?_ 5 _ rfl;(with_reducible repeat first|apply zN|apply zD|apply zA);refine zP (cs:=#[.int .u8 a0_0,.int .u16 a0_1,.int .u8 a0_2,.string a0_3,.int .i64 0,.int .i64 0,.int .i64 0,.int .u64 0,.bool false,.bool false]) ?_ 4 _ rfl;(with_reducible repeat first|apply zN|apply zD|apply zA);refine zP (cs:=#[.int .u8 a0_0,.int .u16 a0_1,.int .u8 a0_2,.string (⟨#[]⟩ : ByteArray),.int .i64 0,.int .i64 0,.int .i64 0,.int .u64 0,.bool false,.bool false]) ?_ 3 _ rfl;(with_reducible repeat first|apply zN|apply zD|apply zA);refine zP (cs:=#[.int .u8 a0_0,.int .u16 a0_1,.int .u8 0,.string (⟨#[]⟩ : ByteArray),.int .i64 0,.int .i64 0,.int .i64 0,.int .u64 0,.bool false,.bool false]) ?_ 2 _ rfl;(with_reducible repeat first|apply zN|apply zD|apply zA);refine zP (cs:=#[.int .u8 a0_0,.int .u16 0,.int .u8 0,.string (⟨#[]⟩ : ByteArray),.int .i64 0,.int .i64 0,.int .i64 0,.int .u64 0,.bool false,.bool false]) ?_ 1 _ rfl;(with_reducible repeat first|apply zN|apply zD|apply zA);refine zP (cs:=#[.int .u8 0,.int .u16 0,.int .u8 0,.string (⟨#[]⟩ : ByteArray),.int .i64 0,.int .i64 0,.int .i64 0,.int .u64 0,.bool false,.bool false]) ?_ 0 _ rfl;(with_reducible repeat first|apply zN|apply zD|apply zA);exact z05.out) Try.underlying42 rfl (by kernel_rfl)) rfl ?_;exact ⟨by first|rfl|(simp [errW_none,errW_some] <;> rfl)|(simp [*,errW_none,errW_some] <;> rfl),by repeat (first|(with_reducible first|exact HB.out|apply yA|apply yN|apply yD|refine yS ?_ z07.out|refine yS ?_ z09.out)|exact HB.out)⟩

/-! ### ccm_Name: function 28 -/
def ccm_Name.f (a0 : ByteArray) : Option (ByteArray) := if (a0.size : Int) > 48 then (if 0 ≤ 48 then (if 48 ≤ (a0.size : Int) then (some (a0.extract 0 48)) else (none)) else (none)) else ((strings_Repeat.f (⟨#[0]⟩ : ByteArray) (wrap64 (48 - (a0.size : Int)))).bind fun t141 => (if a0.size + t141.size ≤ 9223372036854775807 then (some (a0 ++ t141)) else (none)))
set_option maxHeartbeats 8000000 in
set_option maxRecDepth 100000 in
theorem ccm_Name.calls (a0 : ByteArray) (r : ByteArray) (w : World) (h : ccm_Name.f a0 = some r) :
  Calls Try.prog 28 #[.string a0] w fun e w' => e = .returned (.string r) ∧ Below w.heap.size w w' := by
 have HB:=zM (Below.refl w.heap.size w);have H : (if (a0.size : Int) > 48 then (if 0 ≤ 48 then (if 48 ≤ (a0.size : Int) then (some (a0.extract 0 48)) else (none)) else (none)) else ((strings_Repeat.f (⟨#[0]⟩ : ByteArray) (wrap64 (48 - (a0.size : Int)))).bind fun z00 => (if a0.size + z00.size ≤ 9223372036854775807 then (some (a0 ++ z00)) else (none)))) = some r:=h;clear h;by_cases c2 : (a0.size : Int) > 48
 ·
  rw [if_pos c2] at H;have c2b0 : decide (48 < (a0.size : Int)) = true:=dT c2;have c2b1 : decide (48 < a0.size) = true:=dT (by omega);clear c2;by_cases c3 : 0 ≤ 48
  ·
   rw [if_pos c3] at H;have c3b0:=eq_true c3;have c3b1 : decide (0 ≤ 48) = true:=dT c3;clear c3;by_cases c4 : 48 ≤ (a0.size : Int)
   ·
    rw [if_pos c4] at H;have c4b0:=eq_true c4;have c4b1 : decide (48 ≤ (a0.size : Int)) = true:=dT c4;clear c4;obtain rfl:=Option.some.inj H;go_enter Try.func28,Try.ntmps28
    go_wp2;go_ret;exact ⟨by first|rfl|(simp [errW_none,errW_some] <;> rfl)|(simp [*,errW_none,errW_some] <;> rfl),by repeat first|(with_reducible first|exact HB.out|apply yA|apply yN|apply yD)|exact HB.out⟩
   rw [if_neg c4] at H;exact absurd H (by simp)
  rw [if_neg c3] at H;exact absurd H (by simp)
 rw [if_neg c2] at H;have c2b0 : decide (48 < (a0.size : Int)) = false:=dF c2;have c2b1 : decide (48 < a0.size) = false:=dF (by omega);clear c2;replace H:=Option.bind_eq_some_iff.mp H;obtain ⟨z00,A50,H⟩:=H;try dsimp only at H
 have A5:=zM A50;clear A50;by_cases c6 : a0.size + z00.size ≤ 9223372036854775807
 ·
  rw [if_pos c6] at H;have c6b0:=eq_true c6;have c6b1 : decide (a0.size + z00.size ≤ 9223372036854775807) = true:=dT c6;try have c6b2 : (9223372036854775807 < a0.size + z00.size) = False:=eq_false (Nat.not_lt.2 c6)
  obtain rfl:=Option.some.inj H;go_enter Try.func28,Try.ntmps28
  go_wp2_with (first|((with_reducible refine gate_callee (f:=42) rfl ?_);refine goesL_ (some 12) rfl rfl Try.func42 (by kernel_rfl) rfl #[.string (⟨#[0]⟩ : ByteArray),.int .i64 (48 - (a0.size : Int))] rfl (by (try simp only [List.map_toArray,List.map_cons,List.map_nil]);first|done|rfl|(simp only [List.length_drop,List.length_take];rfl)) ?_;(with_reducible refine (strings_Repeat.calls (⟨#[0]⟩ : ByteArray) (48 - (a0.size : Int)) z00 _ (by have h_:=A5.out;rwa [show wrap64 (48 - (a0.size : Int)) = 48 - (a0.size : Int) from by (have hz_:=of_decide_eq_false c2b0);unfold wrap64;omega] at h_)).mono ?_);rintro e w7 ⟨rfl,hb⟩;refine ⟨_,rfl,?_⟩;have n0_:=zM (yT (by repeat first|(with_reducible first|exact HB.out|apply yA|apply yN|apply yD)|exact HB.out) hb);clear HB;have HB:=n0_;clear n0_;(try clear hb);(try clear hb2);(try clear hk);(try clear hi)))
  go_ret;exact ⟨by first|rfl|(simp [errW_none,errW_some] <;> rfl)|(simp [*,errW_none,errW_some] <;> rfl),by repeat first|(with_reducible first|exact HB.out|apply yA|apply yN|apply yD)|exact HB.out⟩
 rw [if_neg c6] at H;exact absurd H (by simp)

/-! ### carousellaw01_Awake: function 52 -/
def carousellaw01_Awake.f  : Option (Bool) := (field_Pack.f (([(⟨3, 5⟩ : S100), (⟨1, 0⟩ : S100), (⟨12, 100⟩ : S100)] : List (S100)))).bind fun bt145 => (if bt145.1.toList = ([160, 100] : List UInt8) then (some (bt145.2 == 0)) else (some false))
set_option maxHeartbeats 8000000 in
set_option maxRecDepth 100000 in
theorem carousellaw01_Awake.calls  (r : Bool) (w : World) (h : carousellaw01_Awake.f  = some r) :
  Calls Try.prog 52 #[] w fun e w' => e = .returned (.bool r) ∧ Below w.heap.size w w' := by
 have hT : r = true:=by
  have h1_ : carousellaw01_Awake.f = some true:=by decide +kernel
  rw [h1_] at h;exact (Option.some.inj h).symm
 have hu100:=Try.underlying100;have HB:=zM (Below.refl w.heap.size w);have H : ((field_Pack.f (([(⟨3,5⟩ : S100),(⟨1,0⟩ : S100),(⟨12,100⟩ : S100)] : List (S100)))).bind fun bt145 => (if bt145.1.toList = ([160,100] : List UInt8) then (some (bt145.2 == 0)) else (some false))) = some r:=h;clear h;obtain ⟨y142,hy142⟩ : ∃ y_ : List (S100),y_ = (([(⟨3,5⟩ : S100),(⟨1,0⟩ : S100),(⟨12,100⟩ : S100)] : List (S100))):=⟨_,rfl⟩
 replace H : ((field_Pack.f y142).bind fun bt145 => (if bt145.1.toList = ([160,100] : List UInt8) then (some (bt145.2 == 0)) else (some false))) = some r:=by first|(rw [hy142];with_reducible exact H)|(have H2_:=(Option.bind_some _ _).symm.trans H;rw [hy142];with_reducible exact H2_)|(have H2_:=(Option.bind_some _ _).symm.trans H;with_reducible exact H2_)|with_reducible exact H|(rw [hy142];exact H)|exact H
 have Ny142:=zM hy142;clear hy142;replace H:=Option.bind_eq_some_iff.mp H;obtain ⟨⟨z01,z02⟩,A10,H⟩:=H;try dsimp only at H
 have A1:=zM A10;clear A10;by_cases c2 : z01.toList = ([160,100] : List UInt8)
 ·
  rw [if_pos c2] at H;have c2b0 : (z01.toList == ([160,100] : List UInt8)) = true:=beq_iff_eq.mpr c2;have c2b1 : (z01.toList != ([160,100] : List UInt8)) = false:=bne_eq_false_iff_eq.mpr c2;clear c2;obtain rfl:=Option.some.inj H;go_enter Try.func52,Try.ntmps52
  go_wp2_with (first|((with_reducible refine gate_dst (N:=7) rfl ?_);refine Kd.R_lit k100 _ 100 ?hg (N:=7) ?hd (xs:=([(⟨3,5⟩ : S100),(⟨1,0⟩ : S100),(⟨12,100⟩ : S100)] : List (S100))) (inner:=[.int .i64 3,.int .u64 5,.int .i64 1,.int .u64 0,.int .i64 12,.int .u64 100]) (ok:=fun _ => True) (okp:=fun _ => True) ?hr ?hp (fun _ hk => hk) trivial (Below.refl _ _) (Nat.le_refl _) (by simp) ?_;(case hd => rfl);(case hg => rfl);(case hr => first|(go_simp;done)|(go_simp;rfl));(case hp => exact (Reps.c2 (show Kd.M k100 _ _ _ (⟨3,5⟩ : S100) [.int .i64 3,.int .u64 5] from (k100_mkM _ _ _ (⟨3,5⟩ : S100) )) (Reps.c2 (show Kd.M k100 _ _ _ (⟨1,0⟩ : S100) [.int .i64 1,.int .u64 0] from (k100_mkM _ _ _ (⟨1,0⟩ : S100) )) (Reps.c2 (show Kd.M k100 _ _ _ (⟨12,100⟩ : S100) [.int .i64 12,.int .u64 100] from (k100_mkM _ _ _ (⟨12,100⟩ : S100) )) (Reps.none _ _)))));intro v143 w3 ho4 hb hg_ hnew_;clear hg_ hnew_;(first|rw [← Ny142.out] at ho4|(simp only [Int.reduceToNat] at ho4;rw [← Ny142.out] at ho4));have n0_:=zM (Kd.R_lower ho4 (yZ (by repeat first|(with_reducible first|exact HB.out|apply yA|apply yN|apply yD)|exact HB.out)));have n1_:=zM (yT (by repeat first|(with_reducible first|exact HB.out|apply yA|apply yN|apply yD)|exact HB.out) hb);clear HB;have z00:=n0_;have HB:=n1_;clear n0_ n1_;clear hb ho4;obtain ⟨Ao5,co5,eo5⟩:=Kd.R_slice z00.out;subst eo5)|((with_reducible refine gate_callee (f:=55) rfl ?_);refine goesL_ (some 8) rfl rfl Try.func55 (by kernel_rfl) rfl #[.slice Ao5 y142.length co5] rfl (by (try simp only [List.map_toArray,List.map_cons,List.map_nil]);first|done|rfl|(simp only [List.length_drop,List.length_take];rfl)) ?_;(with_reducible refine (field_Pack.calls _ _ y142 z01 z02 _ ?side1 ?side2 A1.out).mono ?_);(case side1 => repeat (first|exact (Kd.R_reads' z00.out).2.2|(with_reducible refine Kd.C_alloc ?_ _)|(with_reducible refine Kd.C_drewN ?_ _)|(with_reducible refine Kd.C_drew ?_)));(case side2 => exact (Kd.R_reads' z00.out).2.1);rintro e w6 ⟨rfl,hb⟩;refine ⟨_,rfl,?_⟩;have n0_:=zM (Kd.R_below (by (with_reducible repeat (first|apply Kd.R_alloc|apply Kd.R_drewN|apply Kd.R_drew));exact z00.out) hb);have n1_:=zM (yT (by repeat first|(with_reducible first|exact HB.out|apply yA|apply yN|apply yD)|exact HB.out) hb);clear z00;clear HB;have z00:=n0_;have HB:=n1_;clear n0_ n1_;(try clear hb);(try clear hb2);(try clear hk);(try clear hi)))
  go_ret;exact ⟨by first|rfl|(simp [errW_none,errW_some] <;> rfl)|(simp [*,errW_none,errW_some] <;> rfl),by repeat first|(with_reducible first|exact HB.out|apply yA|apply yN|apply yD)|exact HB.out⟩
 rw [if_neg c2] at H;have c2b0 : (z01.toList == ([160,100] : List UInt8)) = false:=beq_eq_false_iff_ne.mpr c2;have c2b1 : (z01.toList != ([160,100] : List UInt8)) = true:=bne_iff_ne.mpr c2;cases (Option.some.inj H).trans hT

/-! ### carousellaw04_Awake: function 54 -/
def carousellaw04_Awake.f  : Option (Bool) := (oam_Close.f 7 1 40 0 0 (⟨#[]⟩ : ByteArray)).bind fun bt147 => ((carousellaw01_Awake.f).bind fun t149 => (if t149 = true then (if bt147.2 = 0 then (some (bt147.1.toList == ([225, 40, 0, 0, 0] : List UInt8))) else (some false)) else (some false)))
set_option maxHeartbeats 8000000 in
set_option maxRecDepth 100000 in
theorem carousellaw04_Awake.calls  (r : Bool) (w : World) (h : carousellaw04_Awake.f  = some r) :
  Calls Try.prog 54 #[] w fun e w' => e = .returned (.bool r) ∧ Below w.heap.size w w' := by
 have hT : r = true:=by
  have h1_ : carousellaw04_Awake.f = some true:=by decide +kernel
  rw [h1_] at h;exact (Option.some.inj h).symm
 have hu84:=Try.underlying84;have HB:=zM (Below.refl w.heap.size w);have H : ((oam_Close.f 7 1 40 0 0 (⟨#[]⟩ : ByteArray)).bind fun bt147 => ((carousellaw01_Awake.f).bind fun z01 => (if z01 = true then (if bt147.2 = 0 then (some (bt147.1.toList == ([225,40,0,0,0] : List UInt8))) else (some false)) else (some false)))) = some r:=h;clear h;replace H:=Option.bind_eq_some_iff.mp H;obtain ⟨⟨z02,z00⟩,A10,H⟩:=H;try dsimp only at H
 have A1:=zM A10;clear A10;replace H:=Option.bind_eq_some_iff.mp H;obtain ⟨z01,A20,H⟩:=H;try dsimp only at H
 have A2:=zM A20;clear A20;by_cases c3 : z01 = true
 ·
  subst c3;have H1 : (if z00 = 0 then (some (z02.toList == ([225,40,0,0,0] : List UInt8))) else (some false)) = some r:=by rw [if_pos rfl] at H;exact H
  clear H;have H:=H1;clear H1;by_cases c4 : z00 = 0
  ·
   rw [if_pos c4] at H;have c4b0 : (z00 == 0) = true:=beq_iff_eq.mpr c4;have c4b1 : (z00 != 0) = false:=bne_eq_false_iff_eq.mpr c4;clear c4;obtain rfl:=Option.some.inj H;go_enter Try.func54,Try.ntmps54
   go_wp2_with (first|((with_reducible refine gate_callee (f:=56) rfl ?_);refine goesL_ (some 5) rfl rfl Try.func56 (by kernel_rfl) rfl #[.agg #[.int .u8 7,.int .u8 1,.int .u8 40,.int .u8 0,.int .u8 0],.string (⟨#[]⟩ : ByteArray)] rfl (by (try simp only [List.map_toArray,List.map_cons,List.map_nil]);first|done|rfl|(simp only [List.length_drop,List.length_take];rfl)) ?_;(with_reducible refine (oam_Close.calls 7 1 40 0 0 (⟨#[]⟩ : ByteArray) z02 z00 _ A1.out).mono ?_);rintro e w5 ⟨rfl,hb⟩;refine ⟨_,rfl,?_⟩;have n0_:=zM (yT (by repeat first|(with_reducible first|exact HB.out|apply yA|apply yN|apply yD)|exact HB.out) hb);clear HB;have HB:=n0_;clear n0_;(try clear hb);(try clear hb2);(try clear hk);(try clear hi))|((with_reducible refine gate_callee (f:=52) rfl ?_);refine goesL_ (some 8) rfl rfl Try.func52 (by kernel_rfl) rfl #[] rfl (by (try simp only [List.map_toArray,List.map_cons,List.map_nil]);first|done|rfl|(simp only [List.length_drop,List.length_take];rfl)) ?_;(with_reducible refine (carousellaw01_Awake.calls  true _ A2.out).mono ?_);rintro e w6 ⟨rfl,hb⟩;refine ⟨_,rfl,?_⟩;have n0_:=zM (yT (by repeat first|(with_reducible first|exact HB.out|apply yA|apply yN|apply yD)|exact HB.out) hb);clear HB;have HB:=n0_;clear n0_;(try clear hb);(try clear hb2);(try clear hk);(try clear hi)))
   go_ret;exact ⟨by first|rfl|(simp [errW_none,errW_some] <;> rfl)|(simp [*,errW_none,errW_some] <;> rfl),by repeat first|(with_reducible first|exact HB.out|apply yA|apply yN|apply yD)|exact HB.out⟩
  rw [if_neg c4] at H;have c4b0 : (z00 == 0) = false:=beq_eq_false_iff_ne.mpr c4;have c4b1 : (z00 != 0) = true:=bne_iff_ne.mpr c4;cases (Option.some.inj H).trans hT
 replace c3:=Bool.eq_false_iff.mpr c3;subst c3;have H1 : (some false) = some r:=by rw [if_neg (show ¬ (false = true) by decide)] at H;exact H
 clear H;have H:=H1;clear H1;cases (Option.some.inj H).trans hT

/-! ### carousellaw06_Awake: function 37 -/
def carousellaw06_Awake.f (k : Nat)  : Option (Bool) := (ccm_Name.f (⟨#[120]⟩ : ByteArray)).bind fun t150 => ((ccm_Close.f k true 4 0 1 t150 0).bind fun bt151 => ((carousellaw04_Awake.f).bind fun t153 => (if t153 = true then (if bt151.2 = 0 then (if (bt151.1.size : Int) = 75 then (if 2 < (bt151.1.size : Int) then (some ((bt bt151.1 2) == 132)) else (none)) else (some false)) else (some false)) else (some false))))
theorem carousellaw06_Awake.mono : ∀ k, LeO (carousellaw06_Awake.f k ) (carousellaw06_Awake.f (k + 1) ) := by
 intro  k;unfold carousellaw06_Awake.f
 repeat' first
  | (with_reducible exact ccm_Close.mono _ _ _ _ _ _ _)
  | (with_reducible exact LeO.refl _)
  | (with_reducible exact LeO.none _)
  | (with_reducible refine LeO.ite ?_ ?_)
  | (with_reducible refine LeO.bind ?_ (fun _ => ?_))
  | exact ccm_Close.mono _ _ _ _ _ _ _
  | exact LeO.none _
  | refine LeO.ite ?_ ?_
  | refine LeO.bind ?_ (fun _ => ?_)
set_option maxHeartbeats 8000000 in
set_option maxRecDepth 100000 in
theorem carousellaw06_Awake.calls (k : Nat)  (r : Bool) (w : World) (h : carousellaw06_Awake.f k  = some r) :
  Calls Try.prog 37 #[] w fun e w' => e = .returned (.bool r) ∧ Below w.heap.size w w' := by
 have hT : r = true:=by
  obtain ⟨K_,hK_⟩:=(Ev.of carousellaw06_Awake.mono (k:=60) (by decide +kernel) : Ev (fun k => carousellaw06_Awake.f k) true)
  have h1_:=at_rounds carousellaw06_Awake.mono (Nat.le_max_left k K_) h;exact (Option.some.inj ((hK_ _ (Nat.le_max_right k K_)).symm.trans h1_)).symm
 have hu62:=Try.underlying62;have HB:=zM (Below.refl w.heap.size w);have H : ((ccm_Name.f (⟨#[120]⟩ : ByteArray)).bind fun z02 => ((ccm_Close.f k true 4 0 1 z02 0).bind fun bt151 => ((carousellaw04_Awake.f).bind fun z03 => (if z03 = true then (if bt151.2 = 0 then (if (bt151.1.size : Int) = 75 then (if 2 < (bt151.1.size : Int) then (some ((bt bt151.1 2) == 132)) else (none)) else (some false)) else (some false)) else (some false))))) = some r:=h;clear h;replace H:=Option.bind_eq_some_iff.mp H;obtain ⟨z02,A10,H⟩:=H;try dsimp only at H
 have A1:=zM A10;clear A10;replace H:=Option.bind_eq_some_iff.mp H;obtain ⟨⟨z00,z01⟩,A20,H⟩:=H;try dsimp only at H
 have A2:=zM A20;clear A20;replace H:=Option.bind_eq_some_iff.mp H;obtain ⟨z03,A30,H⟩:=H;try dsimp only at H
 have A3:=zM A30;clear A30;by_cases c4 : z03 = true
 ·
  subst c4;have H1 : (if z01 = 0 then (if (z00.size : Int) = 75 then (if 2 < (z00.size : Int) then (some ((bt z00 2) == 132)) else (none)) else (some false)) else (some false)) = some r:=by rw [if_pos rfl] at H;exact H
  clear H;have H:=H1;clear H1;by_cases c5 : z01 = 0
  ·
   rw [if_pos c5] at H;have c5b0 : (z01 == 0) = true:=beq_iff_eq.mpr c5;have c5b1 : (z01 != 0) = false:=bne_eq_false_iff_eq.mpr c5;clear c5;by_cases c6 : (z00.size : Int) = 75
   ·
    rw [if_pos c6] at H;have c6b0 : ((z00.size : Int) == 75) = true:=beq_iff_eq.mpr c6;have c6b1 : ((z00.size : Int) != 75) = false:=bne_eq_false_iff_eq.mpr c6;clear c6;by_cases c7 : 2 < (z00.size : Int)
    ·
     rw [if_pos c7] at H;have c7b0 : decide (2 < (z00.size : Int)) = true:=dT c7;have c7b1 : decide (2 < z00.size) = true:=dT (by omega);clear c7;obtain rfl:=Option.some.inj H;go_enter Try.func37,Try.ntmps37
     go_wp2_with (first|((with_reducible refine gate_callee (f:=28) rfl ?_);refine goesL_ (some 4) rfl rfl Try.func28 (by kernel_rfl) rfl #[.string (⟨#[120]⟩ : ByteArray)] rfl (by (try simp only [List.map_toArray,List.map_cons,List.map_nil]);first|done|rfl|(simp only [List.length_drop,List.length_take];rfl)) ?_;(with_reducible refine (ccm_Name.calls (⟨#[120]⟩ : ByteArray) z02 _ A1.out).mono ?_);rintro e w9 ⟨rfl,hb⟩;refine ⟨_,rfl,?_⟩;have n0_:=zM (yT (by repeat first|(with_reducible first|exact HB.out|apply yA|apply yN|apply yD)|exact HB.out) hb);clear HB;have HB:=n0_;clear n0_;(try clear hb);(try clear hb2);(try clear hk);(try clear hi))|((with_reducible refine gate_callee (f:=38) rfl ?_);refine goesL_ (some 6) rfl rfl Try.func38 (by kernel_rfl) rfl #[.agg #[.bool true,.int .u8 4,.int .u32 0,.int .u16 1,.string z02],.int .u8 0] rfl (by (try simp only [List.map_toArray,List.map_cons,List.map_nil]);first|done|rfl|(simp only [List.length_drop,List.length_take];rfl)) ?_;(with_reducible refine (ccm_Close.calls k true 4 0 1 z02 0 z00 z01 _ A2.out).mono ?_);rintro e w10 ⟨rfl,hb⟩;refine ⟨_,rfl,?_⟩;have n0_:=zM (yT (by repeat first|(with_reducible first|exact HB.out|apply yA|apply yN|apply yD)|exact HB.out) hb);clear HB;have HB:=n0_;clear n0_;(try clear hb);(try clear hb2);(try clear hk);(try clear hi))|((with_reducible refine gate_callee (f:=54) rfl ?_);refine goesL_ (some 9) rfl rfl Try.func54 (by kernel_rfl) rfl #[] rfl (by (try simp only [List.map_toArray,List.map_cons,List.map_nil]);first|done|rfl|(simp only [List.length_drop,List.length_take];rfl)) ?_;(with_reducible refine (carousellaw04_Awake.calls  true _ A3.out).mono ?_);rintro e w11 ⟨rfl,hb⟩;refine ⟨_,rfl,?_⟩;have n0_:=zM (yT (by repeat first|(with_reducible first|exact HB.out|apply yA|apply yN|apply yD)|exact HB.out) hb);clear HB;have HB:=n0_;clear n0_;(try clear hb);(try clear hb2);(try clear hk);(try clear hi);have p8 : 0 ≤ (2 : Int):=(by omega);have q8 : 2 < z00.size:=(by have : (2 : Int) < (z00.size : Int):=of_decide_eq_true (by first|(with_reducible assumption)|assumption);omega);have hx8 : ∀ h : 2 < z00.size,((z00[2]'h).toNat : Int) = bt z00 2:=bt_at z00 2;clear p8;have qi8 : (2 < (z00.size : Int)) = True:=eq_true (of_decide_eq_true (by first|(with_reducible assumption)|assumption));replace q8:=eq_true q8))
     go_ret;exact ⟨by first|rfl|(simp [errW_none,errW_some] <;> rfl)|(simp [*,errW_none,errW_some] <;> rfl),by repeat first|(with_reducible first|exact HB.out|apply yA|apply yN|apply yD)|exact HB.out⟩
    rw [if_neg c7] at H;exact absurd H (by simp)
   rw [if_neg c6] at H;have c6b0 : ((z00.size : Int) == 75) = false:=beq_eq_false_iff_ne.mpr c6;have c6b1 : ((z00.size : Int) != 75) = true:=bne_iff_ne.mpr c6;cases (Option.some.inj H).trans hT
  rw [if_neg c5] at H;have c5b0 : (z01 == 0) = false:=beq_eq_false_iff_ne.mpr c5;have c5b1 : (z01 != 0) = true:=bne_iff_ne.mpr c5;cases (Option.some.inj H).trans hT
 replace c4:=Bool.eq_false_iff.mpr c4;subst c4;have H1 : (some false) = some r:=by rw [if_neg (show ¬ (false = true) by decide)] at H;exact H
 clear H;have H:=H1;clear H1;cases (Option.some.inj H).trans hT

end Go.Proofs.Ytapicoienpbdfaa.PWatchPlays
