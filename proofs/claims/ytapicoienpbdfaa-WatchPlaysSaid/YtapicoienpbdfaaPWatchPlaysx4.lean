-- Written by a program of this work, after the translation.
import Derived.Test.YtapicoienpbdfaaPWatchPlaysx0
import Derived.Test.YtapicoienpbdfaaPWatchPlaysx3
namespace Go.Proofs.Ytapicoienpbdfaa.PWatchPlays
open Go.RowKit Go.Proofs.YtapicoienpbdfaaW.PrintWords Go.Proofs.YtapicoienpbdfaaW.PrintLast Go.Proofs.YtapicoienpbdfaaW.PrintMore
attribute [local go_sem] max2_int min2_int max_two min_two max_three min_three max_four min_four   -- for this text's walks alone
set_option linter.unusedVariables false
set_option linter.unusedSimpArgs false

/-! ### carousellaw09_Awake: function 21 -/
def carousellaw09_Awake.f (k : Nat)  : Option (Bool) := (ccm_Name.f (⟨#[120]⟩ : ByteArray)).bind fun t154 => ((watch_New.f k 0 1 4 t154 2 0).bind fun bt155 => ((watch_Watch_Tick.f k bt155.1 bt155.2.1 bt155.2.2.1 bt155.2.2.2.1 bt155.2.2.2.2.1 bt155.2.2.2.2.2.1 bt155.2.2.2.2.2.2.1 bt155.2.2.2.2.2.2.2.1 bt155.2.2.2.2.2.2.2.2.1 bt155.2.2.2.2.2.2.2.2.2.1 7).bind fun bt167 => ((watch_Watch_Tick.f k bt155.1 bt155.2.1 bt155.2.2.1 bt155.2.2.2.1 bt155.2.2.2.2.1 bt155.2.2.2.2.2.1 bt155.2.2.2.2.2.2.1 bt155.2.2.2.2.2.2.2.1 bt155.2.2.2.2.2.2.2.2.1 bt155.2.2.2.2.2.2.2.2.2.1 8).bind fun bt179 => ((carousellaw06_Awake.f k).bind fun t191 => (if t191 = true then (if bt155.2.2.2.2.2.2.2.2.2.2 = 0 then (if bt167.2.2.2.2.2.2.2.2.1 = true then (some false) else (if bt179.2.2.2.2.2.2.2.2.1 = true then (some ((bt167.2.2.2.2.2.2.2.2.2.2.size : Int) == 75)) else (some false))) else (some false)) else (some false))))))
theorem carousellaw09_Awake.mono : ∀ k, LeO (carousellaw09_Awake.f k ) (carousellaw09_Awake.f (k + 1) ) := by
 intro  k;unfold carousellaw09_Awake.f
 repeat' first
  | (with_reducible exact carousellaw06_Awake.mono _)
  | (with_reducible exact watch_New.mono _ _ _ _ _ _ _)
  | (with_reducible exact watch_Watch_Tick.mono _ _ _ _ _ _ _ _ _ _ _ _)
  | (with_reducible exact LeO.refl _)
  | (with_reducible exact LeO.none _)
  | (with_reducible refine LeO.ite ?_ ?_)
  | (with_reducible refine LeO.bind ?_ (fun _ => ?_))
  | exact carousellaw06_Awake.mono _
  | exact watch_New.mono _ _ _ _ _ _ _
  | exact watch_Watch_Tick.mono _ _ _ _ _ _ _ _ _ _ _ _
  | exact LeO.none _
  | refine LeO.ite ?_ ?_
  | refine LeO.bind ?_ (fun _ => ?_)
set_option maxHeartbeats 8000000 in
set_option maxRecDepth 100000 in
theorem carousellaw09_Awake.calls (k : Nat)  (r : Bool) (w : World) (h : carousellaw09_Awake.f k  = some r) :
  Calls Try.prog 21 #[] w fun e w' => e = .returned (.bool r) ∧ Below w.heap.size w w' := by
 have hT : r = true:=by
  obtain ⟨K_,hK_⟩:=(Ev.of carousellaw09_Awake.mono (k:=60) (by decide +kernel) : Ev (fun k => carousellaw09_Awake.f k) true)
  have h1_:=at_rounds carousellaw09_Awake.mono (Nat.le_max_left k K_) h;exact (Option.some.inj ((hK_ _ (Nat.le_max_right k K_)).symm.trans h1_)).symm
 have hu42:=Try.underlying42;have HB:=zM (Below.refl w.heap.size w);have H : ((ccm_Name.f (⟨#[120]⟩ : ByteArray)).bind fun z14 => ((watch_New.f k 0 1 4 z14 2 0).bind fun bt155 => ((watch_Watch_Tick.f k bt155.1 bt155.2.1 bt155.2.2.1 bt155.2.2.2.1 bt155.2.2.2.2.1 bt155.2.2.2.2.2.1 bt155.2.2.2.2.2.2.1 bt155.2.2.2.2.2.2.2.1 bt155.2.2.2.2.2.2.2.2.1 bt155.2.2.2.2.2.2.2.2.2.1 7).bind fun bt167 => ((watch_Watch_Tick.f k bt155.1 bt155.2.1 bt155.2.2.1 bt155.2.2.2.1 bt155.2.2.2.2.1 bt155.2.2.2.2.2.1 bt155.2.2.2.2.2.2.1 bt155.2.2.2.2.2.2.2.1 bt155.2.2.2.2.2.2.2.2.1 bt155.2.2.2.2.2.2.2.2.2.1 8).bind fun bt179 => ((carousellaw06_Awake.f k).bind fun z19 => (if z19 = true then (if bt155.2.2.2.2.2.2.2.2.2.2 = 0 then (if bt167.2.2.2.2.2.2.2.2.1 = true then (some false) else (if bt179.2.2.2.2.2.2.2.2.1 = true then (some ((bt167.2.2.2.2.2.2.2.2.2.2.size : Int) == 75)) else (some false))) else (some false)) else (some false))))))) = some r:=h;clear h;replace H:=Option.bind_eq_some_iff.mp H;obtain ⟨z14,A10,H⟩:=H;try dsimp only at H
 have A1:=zM A10;clear A10;replace H:=Option.bind_eq_some_iff.mp H;obtain ⟨⟨z06,z08,z09,z0b,z0c,z0d,z0e,z0f,z0g,z0j,z10⟩,A20,H⟩:=H;try dsimp only at H
 have A2:=zM A20;clear A20;replace H:=Option.bind_eq_some_iff.mp H;obtain ⟨⟨z0h,z0k,z0l,z0n,z0o,z0u,z0w,z0y,z4n,z12,z17⟩,A30,H⟩:=H;try dsimp only at H
 have A3:=zM A30;clear A30;replace H:=Option.bind_eq_some_iff.mp H;obtain ⟨⟨z0p,z0v,z0x,z0z,z11,z13,z15,z18,z1a,z4o,z4p⟩,A40,H⟩:=H;try dsimp only at H
 have A4:=zM A40;clear A40;replace H:=Option.bind_eq_some_iff.mp H;obtain ⟨z19,A50,H⟩:=H;try dsimp only at H
 have A5:=zM A50;clear A50;by_cases c6 : z19 = true
 ·
  subst c6;have H1 : (if z10 = 0 then (if z4n = true then (some false) else (if z1a = true then (some ((z17.size : Int) == 75)) else (some false))) else (some false)) = some r:=by rw [if_pos rfl] at H;exact H
  clear H;have H:=H1;clear H1;by_cases c7 : z10 = 0
  ·
   rw [if_pos c7] at H;have c7b0 : (z10 == 0) = true:=beq_iff_eq.mpr c7;have c7b1 : (z10 != 0) = false:=bne_eq_false_iff_eq.mpr c7;clear c7;by_cases c8 : z4n = true
   ·
    subst c8;have H1 : (some false) = some r:=by rw [if_pos rfl] at H;exact H
    clear H;have H:=H1;clear H1;cases (Option.some.inj H).trans hT
   replace c8:=Bool.eq_false_iff.mpr c8;subst c8;have H1 : (if z1a = true then (some ((z17.size : Int) == 75)) else (some false)) = some r:=by rw [if_neg (show ¬ (false = true) by decide)] at H;exact H
   clear H;have H:=H1;clear H1;by_cases c9 : z1a = true
   ·
    subst c9;have H1 : (some ((z17.size : Int) == 75)) = some r:=by rw [if_pos rfl] at H;exact H
    clear H;have H:=H1;clear H1;obtain rfl:=Option.some.inj H;go_enter Try.func21,Try.ntmps21
    go_wp2_with (first|((with_reducible refine gate_callee (f:=28) rfl ?_);refine goesL_ (some 8) rfl rfl Try.func28 (by kernel_rfl) rfl #[.string (⟨#[120]⟩ : ByteArray)] rfl (by (try simp only [List.map_toArray,List.map_cons,List.map_nil]);first|done|rfl|(simp only [List.length_drop,List.length_take];rfl)) ?_;(with_reducible refine (ccm_Name.calls (⟨#[120]⟩ : ByteArray) z14 _ A1.out).mono ?_);rintro e w10 ⟨rfl,hb⟩;refine ⟨_,rfl,?_⟩;have n0_:=zM (yT (by repeat first|(with_reducible first|exact HB.out|apply yA|apply yN|apply yD)|exact HB.out) hb);clear HB;have HB:=n0_;clear n0_;(try clear hb);(try clear hb2);(try clear hk);(try clear hi))|((with_reducible refine gate_callee (f:=22) rfl ?_);refine goesL_ (some 9) rfl rfl Try.func22 (by kernel_rfl) rfl #[.int .u8 0,.int .u16 1,.int .u8 4,.string z14,.int .i64 2,.int .i64 0] rfl (by (try simp only [List.map_toArray,List.map_cons,List.map_nil]);first|done|rfl|(simp only [List.length_drop,List.length_take];rfl)) ?_;(with_reducible refine (watch_New.calls k 0 1 4 z14 2 0 z06 z08 z09 z0b z0c z0d z0e z0f z0g z0j z10 _ A2.out).mono ?_);rintro e w11 ⟨rfl,hb⟩;refine ⟨_,rfl,?_⟩;have n0_:=zM (yT (by repeat first|(with_reducible first|exact HB.out|apply yA|apply yN|apply yD)|exact HB.out) hb);clear HB;have HB:=n0_;clear n0_;(try clear hb);(try clear hb2);(try clear hk);(try clear hi))|((with_reducible refine gate_dst (N:=1) rfl ?_);(try (refine gate_guard (by rfl) ?_;dsimp only));refine box_event ?hg (N:=1) ?hd (cs:=#[.int .u8 0,.int .u16 0,.int .u8 0,.string (⟨#[]⟩ : ByteArray),.int .i64 0,.int .i64 0,.int .i64 0,.int .u64 0,.bool false,.bool false]) (t:=42) ?hr ?_;(case hd => rfl);(case hg => rfl);(case hr => first|(go_simp;done)|(go_simp;rfl));intro z04 hg w12 hbox hb;have n0_:=zM (yT (by repeat first|(with_reducible first|exact HB.out|apply yA|apply yN|apply yD)|exact HB.out) hb);have n1_:=zM (hbox);have n2_:=zM ((by rw [hg];exact (yZ (by repeat first|(with_reducible first|exact HB.out|apply yA|apply yN|apply yD)|exact HB.out)) : w.heap.size ≤ z04));have n3_:=zM ((by rw [hg];exact (yZ (by repeat first|(with_reducible first|exact HB.out|apply yA|apply yN|apply yD)|exact HB.out)) : w.heap.size ≤ z04));clear HB;have HB:=n0_;have z03:=n1_;have z4q:=n2_;have z0a:=n3_;clear n0_ n1_ n2_ n3_;clear hb hbox hg;obtain ⟨z1b,z1c,z1d,z1e,z1f,z1g,z1h,z1i,z1j,z1k,z1l,z1m,z1n,z1o,z1p,z1q,z1r,z1s,z1t,z1u⟩:=kc10 z03.out)|((with_reducible refine gate_callee (f:=26) rfl ?_);refine goesL_ (some 14) rfl rfl Try.func26 (by kernel_rfl) rfl #[.agg #[.int .u8 z06,.int .u16 z08,.int .u8 z09,.string z0b,.int .i64 z0c,.int .i64 z0d,.int .i64 z0e,.int .u64 z0f,.bool z0g,.bool z0j],.int .i64 7] rfl (by (try simp only [List.map_toArray,List.map_cons,List.map_nil]);first|done|rfl|(simp only [List.length_drop,List.length_take];rfl)) ?_;(with_reducible refine (watch_Watch_Tick.calls k z06 z08 z09 z0b z0c z0d z0e z0f z0g z0j 7 z0h z0k z0l z0n z0o z0u z0w z0y false z12 z17 _ A3.out).mono ?_);rintro e w14 ⟨rfl,hb⟩;refine ⟨_,rfl,?_⟩;have n0_:=zM (zB (g:=z04) (o:=.cells #[.int .u8 z06,.int .u16 z08,.int .u8 z09,.string z0b,.int .i64 z0c,.int .i64 z0d,.int .i64 z0e,.int .u64 z0f,.bool z0g,.bool z0j] 42 (0,0)) (by (with_reducible repeat first|apply zN|apply zD|apply zA);refine zP (cs:=#[.int .u8 z06,.int .u16 z08,.int .u8 z09,.string z0b,.int .i64 z0c,.int .i64 z0d,.int .i64 z0e,.int .u64 z0f,.bool z0g,.bool false]) ?_ 9 _ rfl;(with_reducible repeat first|apply zN|apply zD|apply zA);refine zP (cs:=#[.int .u8 z06,.int .u16 z08,.int .u8 z09,.string z0b,.int .i64 z0c,.int .i64 z0d,.int .i64 z0e,.int .u64 z0f,.bool false,.bool false]) ?_ 8 _ rfl;(with_reducible repeat first|apply zN|apply zD|apply zA);refine zP (cs:=#[.int .u8 z06,.int .u16 z08,.int .u8 z09,.string z0b,.int .i64 z0c,.int .i64 z0d,.int .i64 z0e,.int .u64 0,.bool false,.bool false]) ?_ 7 _ rfl;(with_reducible repeat first|apply zN|apply zD|apply zA);refine zP (cs:=#[.int .u8 z06,.int .u16 z08,.int .u8 z09,.string z0b,.int .i64 z0c,.int .i64 z0d,.int .i64 0,.int .u64 0,.bool false,.bool false]) ?_ 6 _ rfl;(with_reducible repeat first|apply zN|apply zD|apply zA);refine zP (cs:=#[.int .u8 z06,.int .u16 z08,.int .u8 z09,.string z0b,.int .i64 z0c,.int .i64 0,.int .i64 0,.int .u64 0,.bool false,.bool false]) ?_ 5 _ rfl;(with_reducible repeat first|apply zN|apply zD|apply zA);refine zP (cs:=#[.int .u8 z06,.int .u16 z08,.int .u8 z09,.string z0b,.int .i64 0,.int .i64 0,.int .i64 0,.int .u64 0,.bool false,.bool false]) ?_ 4 _ rfl;(with_reducible repeat first|apply zN|apply zD|apply zA);refine zP (cs:=#[.int .u8 z06,.int .u16 z08,.int .u8 z09,.string (⟨#[]⟩ : ByteArray),.int .i64 0,.int .i64 0,.int .i64 0,.int .u64 0,.bool false,.bool false]) ?_ 3 _ rfl;(with_reducible repeat first|apply zN|apply zD|apply zA);refine zP (cs:=#[.int .u8 z06,.int .u16 z08,.int .u8 0,.string (⟨#[]⟩ : ByteArray),.int .i64 0,.int .i64 0,.int .i64 0,.int .u64 0,.bool false,.bool false]) ?_ 2 _ rfl;(with_reducible repeat first|apply zN|apply zD|apply zA);refine zP (cs:=#[.int .u8 z06,.int .u16 0,.int .u8 0,.string (⟨#[]⟩ : ByteArray),.int .i64 0,.int .i64 0,.int .i64 0,.int .u64 0,.bool false,.bool false]) ?_ 1 _ rfl;(with_reducible repeat first|apply zN|apply zD|apply zA);refine zP (cs:=#[.int .u8 0,.int .u16 0,.int .u8 0,.string (⟨#[]⟩ : ByteArray),.int .i64 0,.int .i64 0,.int .i64 0,.int .u64 0,.bool false,.bool false]) ?_ 0 _ rfl;(with_reducible repeat first|apply zN|apply zD|apply zA);exact z03.out) hb);have n1_:=zM (yT (by repeat first|(with_reducible first|exact HB.out|apply yA|apply yN|apply yD|refine yS ?_ z0a.out)|exact HB.out) hb);clear z03;clear HB;have z03:=n0_;have HB:=n1_;clear n0_ n1_;(try clear hb);(try clear hb2);(try clear hk);(try clear hi))|((with_reducible refine gate_dst (N:=3) rfl ?_);(try (refine gate_guard (by rfl) ?_;dsimp only));refine box_event ?hg (N:=3) ?hd (cs:=#[.int .u8 0,.int .u16 0,.int .u8 0,.string (⟨#[]⟩ : ByteArray),.int .i64 0,.int .i64 0,.int .i64 0,.int .u64 0,.bool false,.bool false]) (t:=42) ?hr ?_;(case hd => rfl);(case hg => rfl);(case hr => first|(go_simp;done)|(go_simp;rfl));intro z07 hg w15 hbox hb;have n0_:=zM (zB (g:=z04) (o:=.cells #[.int .u8 z06,.int .u16 z08,.int .u8 z09,.string z0b,.int .i64 z0c,.int .i64 z0d,.int .i64 z0e,.int .u64 z0f,.bool z0g,.bool z0j] 42 (0,0)) (by (with_reducible repeat first|apply zN|apply zD|apply zA);exact z03.out) hb);have n1_:=zM (yT (by repeat first|(with_reducible first|exact HB.out|apply yA|apply yN|apply yD|refine yS ?_ z0a.out)|exact HB.out) hb);have n2_:=zM (hbox);have n3_:=zM ((by rw [hg];exact (yZ (by repeat first|(with_reducible first|exact HB.out|apply yA|apply yN|apply yD|refine yS ?_ z0a.out)|exact HB.out)) : w.heap.size ≤ z07));have n4_:=zM ((by rw [hg];exact (yZ (by repeat first|(with_reducible first|exact HB.out|apply yA|apply yN|apply yD|refine yS ?_ z0a.out)|exact HB.out)) : w.heap.size ≤ z07));have n5_:=zM ((by rw [hg];exact Nat.ne_of_lt (blk_lt (g:=z04) (o:=.cells #[.int .u8 z06,.int .u16 z08,.int .u8 z09,.string z0b,.int .i64 z0c,.int .i64 z0d,.int .i64 z0e,.int .u64 z0f,.bool z0g,.bool z0j] 42 (0,0)) (by (with_reducible repeat first|apply zN|apply zD|apply zA);exact z03.out)) : z04 ≠ z07));have n6_:=zM ((by rw [hg];exact Nat.ne_of_gt (blk_lt (g:=z04) (o:=.cells #[.int .u8 z06,.int .u16 z08,.int .u8 z09,.string z0b,.int .i64 z0c,.int .i64 z0d,.int .i64 z0e,.int .u64 z0f,.bool z0g,.bool z0j] 42 (0,0)) (by (with_reducible repeat first|apply zN|apply zD|apply zA);exact z03.out)) : z07 ≠ z04));clear z03;clear HB;have z03:=n0_;have HB:=n1_;have z05:=n2_;have z4r:=n3_;have z0m:=n4_;have z00:=n5_;have z0q:=n6_;clear n0_ n1_ n2_ n3_ n4_ n5_ n6_;clear hb hbox hg;have z4s:=z0q.out;have z4t:=z00.out;obtain ⟨z1v,z1w,z1x,z1y,z1z,z20,z21,z22,z23,z24,z25,z26,z27,z28,z29,z2a,z2b,z2c,z2d,z2e⟩:=kc10 z05.out;obtain ⟨z2f,z2g,z2h,z2i,z2j,z2k,z2l,z2m,z2n,z2o,z2p,z2q,z2r,z2s,z2t,z2u,z2v,z2w,z2x,z2y⟩:=kc10 z03.out)|((with_reducible refine gate_callee (f:=26) rfl ?_);refine goesL_ (some 19) rfl rfl Try.func26 (by kernel_rfl) rfl #[.agg #[.int .u8 z06,.int .u16 z08,.int .u8 z09,.string z0b,.int .i64 z0c,.int .i64 z0d,.int .i64 z0e,.int .u64 z0f,.bool z0g,.bool z0j],.int .i64 8] rfl (by (try simp only [List.map_toArray,List.map_cons,List.map_nil]);first|done|rfl|(simp only [List.length_drop,List.length_take];rfl)) ?_;(with_reducible refine (watch_Watch_Tick.calls k z06 z08 z09 z0b z0c z0d z0e z0f z0g z0j 8 z0p z0v z0x z0z z11 z13 z15 z18 true z4o z4p _ A4.out).mono ?_);rintro e w19 ⟨rfl,hb⟩;refine ⟨_,rfl,?_⟩;have n0_:=zM (zB (g:=z04) (o:=.cells #[.int .u8 z06,.int .u16 z08,.int .u8 z09,.string z0b,.int .i64 z0c,.int .i64 z0d,.int .i64 z0e,.int .u64 z0f,.bool z0g,.bool z0j] 42 (0,0)) (by (with_reducible repeat first|apply zN|apply zD|apply zA);refine zG ?_ z00.out _;(with_reducible repeat first|apply zN|apply zD|apply zA);refine zG ?_ z00.out _;(with_reducible repeat first|apply zN|apply zD|apply zA);refine zG ?_ z00.out _;(with_reducible repeat first|apply zN|apply zD|apply zA);refine zG ?_ z00.out _;(with_reducible repeat first|apply zN|apply zD|apply zA);refine zG ?_ z00.out _;(with_reducible repeat first|apply zN|apply zD|apply zA);refine zG ?_ z00.out _;(with_reducible repeat first|apply zN|apply zD|apply zA);refine zG ?_ z00.out _;(with_reducible repeat first|apply zN|apply zD|apply zA);refine zG ?_ z00.out _;(with_reducible repeat first|apply zN|apply zD|apply zA);refine zG ?_ z00.out _;(with_reducible repeat first|apply zN|apply zD|apply zA);refine zG ?_ z00.out _;(with_reducible repeat first|apply zN|apply zD|apply zA);exact z03.out) hb);have n1_:=zM (zB (g:=z07) (o:=.cells #[.int .u8 z0h,.int .u16 z0k,.int .u8 z0l,.string z0n,.int .i64 z0o,.int .i64 z0u,.int .i64 z0w,.int .u64 z0y,.bool false,.bool z12] 42 (0,0)) (by (with_reducible repeat first|apply zN|apply zD|apply zA);refine zP (cs:=#[.int .u8 z0h,.int .u16 z0k,.int .u8 z0l,.string z0n,.int .i64 z0o,.int .i64 z0u,.int .i64 z0w,.int .u64 z0y,.bool false,.bool false]) ?_ 9 _ rfl;(with_reducible repeat first|apply zN|apply zD|apply zA);refine zP (cs:=#[.int .u8 z0h,.int .u16 z0k,.int .u8 z0l,.string z0n,.int .i64 z0o,.int .i64 z0u,.int .i64 z0w,.int .u64 z0y,.bool false,.bool false]) ?_ 8 _ rfl;(with_reducible repeat first|apply zN|apply zD|apply zA);refine zP (cs:=#[.int .u8 z0h,.int .u16 z0k,.int .u8 z0l,.string z0n,.int .i64 z0o,.int .i64 z0u,.int .i64 z0w,.int .u64 0,.bool false,.bool false]) ?_ 7 _ rfl;(with_reducible repeat first|apply zN|apply zD|apply zA);refine zP (cs:=#[.int .u8 z0h,.int .u16 z0k,.int .u8 z0l,.string z0n,.int .i64 z0o,.int .i64 z0u,.int .i64 0,.int .u64 0,.bool false,.bool false]) ?_ 6 _ rfl;(with_reducible repeat first|apply zN|apply zD|apply zA);refine zP (cs:=#[.int .u8 z0h,.int .u16 z0k,.int .u8 z0l,.string z0n,.int .i64 z0o,.int .i64 0,.int .i64 0,.int .u64 0,.bool false,.bool false]) ?_ 5 _ rfl;(with_reducible repeat first|apply zN|apply zD|apply zA);refine zP (cs:=#[.int .u8 z0h,.int .u16 z0k,.int .u8 z0l,.string z0n,.int .i64 0,.int .i64 0,.int .i64 0,.int .u64 0,.bool false,.bool false]) ?_ 4 _ rfl;(with_reducible repeat first|apply zN|apply zD|apply zA);refine zP (cs:=#[.int .u8 z0h,.int .u16 z0k,.int .u8 z0l,.string (⟨#[]⟩ : ByteArray),.int .i64 0,.int .i64 0,.int .i64 0,.int .u64 0,.bool false,.bool false]) ?_ 3 _ rfl;(with_reducible repeat first|apply zN|apply zD|apply zA);refine zP (cs:=#[.int .u8 z0h,.int .u16 z0k,.int .u8 0,.string (⟨#[]⟩ : ByteArray),.int .i64 0,.int .i64 0,.int .i64 0,.int .u64 0,.bool false,.bool false]) ?_ 2 _ rfl;(with_reducible repeat first|apply zN|apply zD|apply zA);refine zP (cs:=#[.int .u8 z0h,.int .u16 0,.int .u8 0,.string (⟨#[]⟩ : ByteArray),.int .i64 0,.int .i64 0,.int .i64 0,.int .u64 0,.bool false,.bool false]) ?_ 1 _ rfl;(with_reducible repeat first|apply zN|apply zD|apply zA);refine zP (cs:=#[.int .u8 0,.int .u16 0,.int .u8 0,.string (⟨#[]⟩ : ByteArray),.int .i64 0,.int .i64 0,.int .i64 0,.int .u64 0,.bool false,.bool false]) ?_ 0 _ rfl;(with_reducible repeat first|apply zN|apply zD|apply zA);exact z05.out) hb);have n2_:=zM (yT (by repeat (first|(with_reducible first|exact HB.out|apply yA|apply yN|apply yD|refine yS ?_ z0a.out|refine yS ?_ z0m.out)|exact HB.out)) hb);clear z03;clear z05;clear HB;have z03:=n0_;have z05:=n1_;have HB:=n2_;clear n0_ n1_ n2_;(try clear hb);(try clear hb2);(try clear hk);(try clear hi))|((with_reducible refine gate_dst (N:=5) rfl ?_);(try (refine gate_guard (by rfl) ?_;dsimp only));refine box_event ?hg (N:=5) ?hd (cs:=#[.int .u8 0,.int .u16 0,.int .u8 0,.string (⟨#[]⟩ : ByteArray),.int .i64 0,.int .i64 0,.int .i64 0,.int .u64 0,.bool false,.bool false]) (t:=42) ?hr ?_;(case hd => rfl);(case hg => rfl);(case hr => first|(go_simp;done)|(go_simp;rfl));intro z0i hg w20 hbox hb;have n0_:=zM (zB (g:=z04) (o:=.cells #[.int .u8 z06,.int .u16 z08,.int .u8 z09,.string z0b,.int .i64 z0c,.int .i64 z0d,.int .i64 z0e,.int .u64 z0f,.bool z0g,.bool z0j] 42 (0,0)) (by (with_reducible repeat first|apply zN|apply zD|apply zA);exact z03.out) hb);have n1_:=zM (zB (g:=z07) (o:=.cells #[.int .u8 z0h,.int .u16 z0k,.int .u8 z0l,.string z0n,.int .i64 z0o,.int .i64 z0u,.int .i64 z0w,.int .u64 z0y,.bool false,.bool z12] 42 (0,0)) (by (with_reducible repeat first|apply zN|apply zD|apply zA);exact z05.out) hb);have n2_:=zM (yT (by repeat (first|(with_reducible first|exact HB.out|apply yA|apply yN|apply yD|refine yS ?_ z0a.out|refine yS ?_ z0m.out)|exact HB.out)) hb);have n3_:=zM (hbox);have n4_:=zM ((by rw [hg];exact (yZ (by repeat (first|(with_reducible first|exact HB.out|apply yA|apply yN|apply yD|refine yS ?_ z0a.out|refine yS ?_ z0m.out)|exact HB.out))) : w.heap.size ≤ z0i));have n5_:=zM ((by rw [hg];exact (yZ (by repeat (first|(with_reducible first|exact HB.out|apply yA|apply yN|apply yD|refine yS ?_ z0a.out|refine yS ?_ z0m.out)|exact HB.out))) : w.heap.size ≤ z0i));have n6_:=zM ((by rw [hg];exact Nat.ne_of_lt (blk_lt (g:=z04) (o:=.cells #[.int .u8 z06,.int .u16 z08,.int .u8 z09,.string z0b,.int .i64 z0c,.int .i64 z0d,.int .i64 z0e,.int .u64 z0f,.bool z0g,.bool z0j] 42 (0,0)) (by (with_reducible repeat first|apply zN|apply zD|apply zA);exact z03.out)) : z04 ≠ z0i));have n7_:=zM ((by rw [hg];exact Nat.ne_of_gt (blk_lt (g:=z04) (o:=.cells #[.int .u8 z06,.int .u16 z08,.int .u8 z09,.string z0b,.int .i64 z0c,.int .i64 z0d,.int .i64 z0e,.int .u64 z0f,.bool z0g,.bool z0j] 42 (0,0)) (by (with_reducible repeat first|apply zN|apply zD|apply zA);exact z03.out)) : z0i ≠ z04));have n8_:=zM ((by rw [hg];exact Nat.ne_of_lt (blk_lt (g:=z07) (o:=.cells #[.int .u8 z0h,.int .u16 z0k,.int .u8 z0l,.string z0n,.int .i64 z0o,.int .i64 z0u,.int .i64 z0w,.int .u64 z0y,.bool false,.bool z12] 42 (0,0)) (by (with_reducible repeat first|apply zN|apply zD|apply zA);exact z05.out)) : z07 ≠ z0i));have n9_:=zM ((by rw [hg];exact Nat.ne_of_gt (blk_lt (g:=z07) (o:=.cells #[.int .u8 z0h,.int .u16 z0k,.int .u8 z0l,.string z0n,.int .i64 z0o,.int .i64 z0u,.int .i64 z0w,.int .u64 z0y,.bool false,.bool z12] 42 (0,0)) (by (with_reducible repeat first|apply zN|apply zD|apply zA);exact z05.out)) : z0i ≠ z07));clear z03;clear z05;clear HB;have z03:=n0_;have z05:=n1_;have HB:=n2_;have z0r:=n3_;have z4u:=n4_;have z16:=n5_;have z01:=n6_;have z0s:=n7_;have z02:=n8_;have z0t:=n9_;clear n0_ n1_ n2_ n3_ n4_ n5_ n6_ n7_ n8_ n9_;clear hb hbox hg;have z4v:=z0s.out;have z4w:=z01.out;have z4x:=z0t.out;have z4y:=z02.out;obtain ⟨z2z,z30,z31,z32,z33,z34,z35,z36,z37,z38,z39,z3a,z3b,z3c,z3d,z3e,z3f,z3g,z3h,z3i⟩:=kc10 z0r.out)|((with_reducible refine gate_callee (f:=37) rfl ?_);refine goesL_ (some 22) rfl rfl Try.func37 (by kernel_rfl) rfl #[] rfl (by (try simp only [List.map_toArray,List.map_cons,List.map_nil]);first|done|rfl|(simp only [List.length_drop,List.length_take];rfl)) ?_;(with_reducible refine (carousellaw06_Awake.calls k  true _ A5.out).mono ?_);rintro e w24 ⟨rfl,hb⟩;refine ⟨_,rfl,?_⟩;have n0_:=zM (zB (g:=z04) (o:=.cells #[.int .u8 z06,.int .u16 z08,.int .u8 z09,.string z0b,.int .i64 z0c,.int .i64 z0d,.int .i64 z0e,.int .u64 z0f,.bool z0g,.bool z0j] 42 (0,0)) (by (with_reducible repeat first|apply zN|apply zD|apply zA);refine zG ?_ z01.out _;(with_reducible repeat first|apply zN|apply zD|apply zA);refine zG ?_ z01.out _;(with_reducible repeat first|apply zN|apply zD|apply zA);refine zG ?_ z01.out _;(with_reducible repeat first|apply zN|apply zD|apply zA);refine zG ?_ z01.out _;(with_reducible repeat first|apply zN|apply zD|apply zA);refine zG ?_ z01.out _;(with_reducible repeat first|apply zN|apply zD|apply zA);refine zG ?_ z01.out _;(with_reducible repeat first|apply zN|apply zD|apply zA);refine zG ?_ z01.out _;(with_reducible repeat first|apply zN|apply zD|apply zA);refine zG ?_ z01.out _;(with_reducible repeat first|apply zN|apply zD|apply zA);refine zG ?_ z01.out _;(with_reducible repeat first|apply zN|apply zD|apply zA);refine zG ?_ z01.out _;(with_reducible repeat first|apply zN|apply zD|apply zA);exact z03.out) hb);have n1_:=zM (zB (g:=z07) (o:=.cells #[.int .u8 z0h,.int .u16 z0k,.int .u8 z0l,.string z0n,.int .i64 z0o,.int .i64 z0u,.int .i64 z0w,.int .u64 z0y,.bool false,.bool z12] 42 (0,0)) (by (with_reducible repeat first|apply zN|apply zD|apply zA);refine zG ?_ z02.out _;(with_reducible repeat first|apply zN|apply zD|apply zA);refine zG ?_ z02.out _;(with_reducible repeat first|apply zN|apply zD|apply zA);refine zG ?_ z02.out _;(with_reducible repeat first|apply zN|apply zD|apply zA);refine zG ?_ z02.out _;(with_reducible repeat first|apply zN|apply zD|apply zA);refine zG ?_ z02.out _;(with_reducible repeat first|apply zN|apply zD|apply zA);refine zG ?_ z02.out _;(with_reducible repeat first|apply zN|apply zD|apply zA);refine zG ?_ z02.out _;(with_reducible repeat first|apply zN|apply zD|apply zA);refine zG ?_ z02.out _;(with_reducible repeat first|apply zN|apply zD|apply zA);refine zG ?_ z02.out _;(with_reducible repeat first|apply zN|apply zD|apply zA);refine zG ?_ z02.out _;(with_reducible repeat first|apply zN|apply zD|apply zA);exact z05.out) hb);have n2_:=zM (zB (g:=z0i) (o:=.cells #[.int .u8 z0p,.int .u16 z0v,.int .u8 z0x,.string z0z,.int .i64 z11,.int .i64 z13,.int .i64 z15,.int .u64 z18,.bool true,.bool z4o] 42 (0,0)) (by (with_reducible repeat first|apply zN|apply zD|apply zA);refine zP (cs:=#[.int .u8 z0p,.int .u16 z0v,.int .u8 z0x,.string z0z,.int .i64 z11,.int .i64 z13,.int .i64 z15,.int .u64 z18,.bool true,.bool false]) ?_ 9 _ rfl;(with_reducible repeat first|apply zN|apply zD|apply zA);refine zP (cs:=#[.int .u8 z0p,.int .u16 z0v,.int .u8 z0x,.string z0z,.int .i64 z11,.int .i64 z13,.int .i64 z15,.int .u64 z18,.bool false,.bool false]) ?_ 8 _ rfl;(with_reducible repeat first|apply zN|apply zD|apply zA);refine zP (cs:=#[.int .u8 z0p,.int .u16 z0v,.int .u8 z0x,.string z0z,.int .i64 z11,.int .i64 z13,.int .i64 z15,.int .u64 0,.bool false,.bool false]) ?_ 7 _ rfl;(with_reducible repeat first|apply zN|apply zD|apply zA);refine zP (cs:=#[.int .u8 z0p,.int .u16 z0v,.int .u8 z0x,.string z0z,.int .i64 z11,.int .i64 z13,.int .i64 0,.int .u64 0,.bool false,.bool false]) ?_ 6 _ rfl;(with_reducible repeat first|apply zN|apply zD|apply zA);refine zP (cs:=#[.int .u8 z0p,.int .u16 z0v,.int .u8 z0x,.string z0z,.int .i64 z11,.int .i64 0,.int .i64 0,.int .u64 0,.bool false,.bool false]) ?_ 5 _ rfl;(with_reducible repeat first|apply zN|apply zD|apply zA);refine zP (cs:=#[.int .u8 z0p,.int .u16 z0v,.int .u8 z0x,.string z0z,.int .i64 0,.int .i64 0,.int .i64 0,.int .u64 0,.bool false,.bool false]) ?_ 4 _ rfl;(with_reducible repeat first|apply zN|apply zD|apply zA);refine zP (cs:=#[.int .u8 z0p,.int .u16 z0v,.int .u8 z0x,.string (⟨#[]⟩ : ByteArray),.int .i64 0,.int .i64 0,.int .i64 0,.int .u64 0,.bool false,.bool false]) ?_ 3 _ rfl;(with_reducible repeat first|apply zN|apply zD|apply zA);refine zP (cs:=#[.int .u8 z0p,.int .u16 z0v,.int .u8 0,.string (⟨#[]⟩ : ByteArray),.int .i64 0,.int .i64 0,.int .i64 0,.int .u64 0,.bool false,.bool false]) ?_ 2 _ rfl;(with_reducible repeat first|apply zN|apply zD|apply zA);refine zP (cs:=#[.int .u8 z0p,.int .u16 0,.int .u8 0,.string (⟨#[]⟩ : ByteArray),.int .i64 0,.int .i64 0,.int .i64 0,.int .u64 0,.bool false,.bool false]) ?_ 1 _ rfl;(with_reducible repeat first|apply zN|apply zD|apply zA);refine zP (cs:=#[.int .u8 0,.int .u16 0,.int .u8 0,.string (⟨#[]⟩ : ByteArray),.int .i64 0,.int .i64 0,.int .i64 0,.int .u64 0,.bool false,.bool false]) ?_ 0 _ rfl;(with_reducible repeat first|apply zN|apply zD|apply zA);exact z0r.out) hb);have n3_:=zM (yT (by repeat (first|(with_reducible first|exact HB.out|apply yA|apply yN|apply yD|refine yS ?_ z0a.out|refine yS ?_ z0m.out|refine yS ?_ z16.out)|exact HB.out)) hb);clear z03;clear z05;clear z0r;clear HB;have z03:=n0_;have z05:=n1_;have z0r:=n2_;have HB:=n3_;clear n0_ n1_ n2_ n3_;(try clear hb);(try clear hb2);(try clear hk);(try clear hi);obtain ⟨z3j,z3k,z3l,z3m,z3n,z3o,z3p,z3q,z3r,z3s,z3t,z3u,z3v,z3w,z3x,z3y,z3z,z40,z41,z42⟩:=kc10 z05.out;obtain ⟨z43,z44,z45,z46,z47,z48,z49,z4a,z4b,z4c,z4d,z4e,z4f,z4g,z4h,z4i,z4j,z4k,z4l,z4m⟩:=kc10 z0r.out))
    go_ret;exact ⟨by first|rfl|(simp [errW_none,errW_some] <;> rfl)|(simp [*,errW_none,errW_some] <;> rfl),by repeat (first|(with_reducible first|exact HB.out|apply yA|apply yN|apply yD|refine yS ?_ z0a.out|refine yS ?_ z0m.out|refine yS ?_ z16.out)|exact HB.out)⟩
   replace c9:=Bool.eq_false_iff.mpr c9;subst c9;have H1 : (some false) = some r:=by rw [if_neg (show ¬ (false = true) by decide)] at H;exact H
   clear H;have H:=H1;clear H1;cases (Option.some.inj H).trans hT
  rw [if_neg c7] at H;have c7b0 : (z10 == 0) = false:=beq_eq_false_iff_ne.mpr c7;have c7b1 : (z10 != 0) = true:=bne_iff_ne.mpr c7;cases (Option.some.inj H).trans hT
 replace c6:=Bool.eq_false_iff.mpr c6;subst c6;have H1 : (some false) = some r:=by rw [if_neg (show ¬ (false = true) by decide)] at H;exact H
 clear H;have H:=H1;clear H1;cases (Option.some.inj H).trans hT

/-! ### carouselref04_Close: function 71 -/
def carouselref04_Close.j0 : Nat → ByteArray → Bool → Int → Int → Int → Int → Int → Option (ByteArray × Int)
  | 0, _, _, _, _, _, _, _ => none
  | k + 1, x1, x13, x193000, x193001, x193002, x193003, x193004 => if x13 = true then (some ((⟨#[]⟩ : ByteArray), 4)) else (if (x1.size : Int) = (wrap64 (x193004)) then ((some (([(((x193000 * 32) % 256) + x193001) % 256, x193002, x193003, x193004] : List Int) : List Int)).bind fun y193 => (if (strOfNums y193).size + x1.size ≤ 9223372036854775807 then (if (strOfNums y193).size + x1.size + 1 ≤ 9223372036854775807 then (some (((strOfNums y193) ++ x1) ++ (⟨#[0]⟩ : ByteArray), 0)) else (none)) else (none))) else (some ((⟨#[]⟩ : ByteArray), 3)))
def carouselref04_Close.f (k : Nat) (a0_0 : Int) (a0_1 : Int) (a0_2 : Int) (a0_3 : Int) (a0_4 : Int) (a1 : ByteArray) : Option (ByteArray × Int) := if a0_0 > 7 then (carouselref04_Close.j0 k a1 true a0_0 a0_1 a0_2 a0_3 a0_4) else (carouselref04_Close.j0 k a1 (decide (a0_1 > 31)) a0_0 a0_1 a0_2 a0_3 a0_4)
theorem carouselref04_Close.mono_l : ∀ k, (∀ y0 y1 y2 y3 y4 y5 y6, LeO (carouselref04_Close.j0 k y0 y1 y2 y3 y4 y5 y6) (carouselref04_Close.j0 (k + 1) y0 y1 y2 y3 y4 y5 y6))
 | 0 => fun _ _ _ _ _ _ _ r h => by simp [carouselref04_Close.j0] at h
 | k + 1 => by
  have ih0 := carouselref04_Close.mono_l k
  intro y0 y1 y2 y3 y4 y5 y6
  unfold carouselref04_Close.j0
  repeat' first
  | (with_reducible exact ih0 _ _ _ _ _ _ _)
  | (with_reducible exact LeO.refl _)
  | (with_reducible exact LeO.none _)
  | (with_reducible refine LeO.ite ?_ ?_)
  | (with_reducible refine LeO.bind ?_ (fun _ => ?_))
  | exact ih0 _ _ _ _ _ _ _
  | exact LeO.none _
  | refine LeO.ite ?_ ?_
  | refine LeO.bind ?_ (fun _ => ?_)
theorem carouselref04_Close.mono : ∀ a0 a1 a2 a3 a4 a5 k, LeO (carouselref04_Close.f k a0 a1 a2 a3 a4 a5) (carouselref04_Close.f (k + 1) a0 a1 a2 a3 a4 a5) := by
 intro a0 a1 a2 a3 a4 a5 k;have ih0:=carouselref04_Close.mono_l k;unfold carouselref04_Close.f
 repeat' first
  | (with_reducible exact ih0 _ _ _ _ _ _ _)
  | (with_reducible exact LeO.refl _)
  | (with_reducible exact LeO.none _)
  | (with_reducible refine LeO.ite ?_ ?_)
  | (with_reducible refine LeO.bind ?_ (fun _ => ?_))
  | exact ih0 _ _ _ _ _ _ _
  | exact LeO.none _
  | refine LeO.ite ?_ ?_
  | refine LeO.bind ?_ (fun _ => ?_)
set_option maxHeartbeats 8000000 in
set_option maxRecDepth 100000 in
theorem carouselref04_Close.calls (k : Nat) (a0_0 : Int) (a0_1 : Int) (a0_2 : Int) (a0_3 : Int) (a0_4 : Int) (a1 : ByteArray) (r1 : ByteArray) (r2 : Int) (w : World) (h : carouselref04_Close.f k a0_0 a0_1 a0_2 a0_3 a0_4 a1 = some (r1, r2)) :
  Calls Try.prog 71 #[.agg #[.int .u8 a0_0, .int .u8 a0_1, .int .u8 a0_2, .int .u8 a0_3, .int .u8 a0_4], .string a1] w fun e w' => e = .returned (.tuple #[.string r1, .int .i64 r2]) ∧ Below w.heap.size w w' := by
 have hu103:=Try.underlying103;have HB:=zM (Below.refl w.heap.size w);have H : (if a0_0 > 7 then (carouselref04_Close.j0 k a1 true a0_0 a0_1 a0_2 a0_3 a0_4) else (carouselref04_Close.j0 k a1 (decide (a0_1 > 31)) a0_0 a0_1 a0_2 a0_3 a0_4)) = some (r1,r2):=h;clear h;have HC3:=zM H;clear H;go_enter Try.func71,Try.ntmps71
 go_upto_region 1 with (first|((with_reducible refine gate_dst (N:=2) rfl ?_);refine box_event ?hg (N:=2) ?hd (cs:=#[.int .u8 a0_0,.int .u8 a0_1,.int .u8 a0_2,.int .u8 a0_3,.int .u8 a0_4]) (t:=103) ?hr ?_;(case hd => rfl);(case hg => rfl);(case hr => first|(go_simp;done)|(go_simp;rfl));intro z02 hg w4 hbox hb;have n0_:=zM (yT (by repeat first|(with_reducible first|exact HB.out|apply yA|apply yN|apply yD)|exact HB.out) hb);have n1_:=zM (hbox);have n2_:=zM ((by rw [hg];exact (yZ (by repeat first|(with_reducible first|exact HB.out|apply yA|apply yN|apply yD)|exact HB.out)) : w.heap.size ≤ z02));have n3_:=zM ((by rw [hg];exact (yZ (by repeat first|(with_reducible first|exact HB.out|apply yA|apply yN|apply yD)|exact HB.out)) : w.heap.size ≤ z02));clear HB;have HB:=n0_;have z00:=n1_;have z18:=n2_;have z01:=n3_;clear n0_ n1_ n2_ n3_;clear hb hbox hg))
 (try simp only [Act.put,sA,sB,sC])
 go_cut [13] (fun v13 wc => ∃ (kq : Nat) (x13_2 : Bool),v13 = .bool x13_2 ∧ Aside0 (carouselref04_Close.j0 kq a1 x13_2 a0_0 a0_1 a0_2 a0_3 a0_4 = some (r1,r2)) ∧ Aside0 (kq ≤ k) ∧ Aside0 (wc.heap[z02]? = some (.cells #[.int .u8 a0_0,.int .u8 a0_1,.int .u8 a0_2,.int .u8 a0_3,.int .u8 a0_4] 103 (0,0))) ∧ Aside0 (Below w.heap.size w wc))
 case first =>
  have H:=HC3.out;clear HC3;by_cases c5 : a0_0 > 7
  ·
   rw [if_pos c5] at H;have c5b0 : decide (7 < a0_0) = true:=dT c5;clear c5;(first|rw [c5b0]|(simp only [i64_w,i32_w];rw [c5b0])|skip)
   have H':=zM H;clear H;obtain ⟨z03,z04,z05,z06,z07,z08,z09,z0a,z0b,z0c⟩:=kc5 z00.out;go_wp2;go_meet
   case rel => exact ⟨_,(true),(by first|rfl|(simp;done)|(simp [*];done)),H',⟨by first|omega|exact Nat.le_refl _⟩,⟨by (with_reducible repeat first|apply zN|apply zD|apply zA);exact z00.out⟩,⟨by repeat first|(with_reducible first|exact HB.out|apply yA|apply yN|apply yD|refine yS ?_ z01.out)|exact HB.out⟩⟩
  rw [if_neg c5] at H;have c5b0 : decide (7 < a0_0) = false:=dF c5;clear c5;(first|rw [c5b0]|(simp only [i64_w,i32_w];rw [c5b0])|skip)
  have H':=zM H;clear H;obtain ⟨z0d,z0e,z0f,z0g,z0h,z0i,z0j,z0k,z0l,z0m⟩:=kc5 z00.out;go_wp2;go_meet
  case rel => exact ⟨_,(decide (a0_1 > 31)),(by first|rfl|(simp;done)|(simp [*];done)),H',⟨by first|omega|exact Nat.le_refl _⟩,⟨by (with_reducible repeat first|apply zN|apply zD|apply zA);exact z00.out⟩,⟨by repeat first|(with_reducible first|exact HB.out|apply yA|apply yN|apply yD|refine yS ?_ z01.out)|exact HB.out⟩⟩
 case rest =>
  clear HC3;try clear p2
  try clear c5
  try clear c5b0
  try clear c7
  try clear z03
  try clear z04
  try clear z05
  try clear z06
  try clear z07
  try clear z0d
  try clear z0e
  try clear z0f
  try clear z0g
  try clear z0h
  try clear z08
  try clear z09
  try clear z0a
  try clear z0b
  try clear z0c
  try clear z0i
  try clear z0j
  try clear z0k
  try clear z0l
  try clear z0m
  obtain ⟨kq,x13_2,rfl,HA,HJ2,z00,HB⟩:=hcut;cases kq with
 | zero => exact absurd HA.out (by simp [carouselref04_Close.j0])
 | succ kj2 =>
   have H:=HA.out;clear HA;simp only [carouselref04_Close.j0] at H;by_cases c8 : x13_2 = true
   ·
    subst c8;have H1 : (some ((⟨#[]⟩ : ByteArray),4)) = some (r1,r2):=by rw [if_pos rfl] at H;exact H
    clear H;have H:=H1;clear H1;simp only [Option.some.injEq,Prod.mk.injEq] at H;obtain ⟨rfl,rfl⟩:=H;go_wp2;go_ret2
    exact ⟨by first|rfl|(simp [errW_none,errW_some] <;> rfl)|(simp [*,errW_none,errW_some] <;> rfl),by repeat first|(with_reducible first|exact HB.out|apply yA|apply yN|apply yD|refine yS ?_ z01.out)|exact HB.out⟩
   replace c8:=Bool.eq_false_iff.mpr c8;subst c8;have H1 : (if (a1.size : Int) = (wrap64 (a0_4)) then ((some (([(((a0_0 * 32) % 256) + a0_1) % 256,a0_2,a0_3,a0_4] : List Int) : List Int)).bind fun y193 => (if (strOfNums y193).size + a1.size ≤ 9223372036854775807 then (if (strOfNums y193).size + a1.size + 1 ≤ 9223372036854775807 then (some (((strOfNums y193) ++ a1) ++ (⟨#[0]⟩ : ByteArray),0)) else (none)) else (none))) else (some ((⟨#[]⟩ : ByteArray),3))) = some (r1,r2):=by rw [if_neg (show ¬ (false = true) by decide)] at H;exact H
   clear H;have H:=H1;clear H1;by_cases c9 : (a1.size : Int) = (wrap64 (a0_4))
   ·
    rw [if_pos c9] at H;have c9b0 : ((a1.size : Int) == (wrap64 (a0_4))) = true:=beq_iff_eq.mpr c9;have c9b1 : ((a1.size : Int) != (wrap64 (a0_4))) = false:=bne_eq_false_iff_eq.mpr c9;clear c9;obtain ⟨y193,hy193⟩ : ∃ y_ : List Int,y_ = (([(((a0_0 * 32) % 256) + a0_1) % 256,a0_2,a0_3,a0_4] : List Int)):=⟨_,rfl⟩
    replace H : (if (strOfNums y193).size + a1.size ≤ 9223372036854775807 then (if (strOfNums y193).size + a1.size + 1 ≤ 9223372036854775807 then (some (((strOfNums y193) ++ a1) ++ (⟨#[0]⟩ : ByteArray),0)) else (none)) else (none)) = some (r1,r2):=by first|(rw [hy193];with_reducible exact H)|(have H2_:=(Option.bind_some _ _).symm.trans H;rw [hy193];with_reducible exact H2_)|(have H2_:=(Option.bind_some _ _).symm.trans H;with_reducible exact H2_)|with_reducible exact H|(rw [hy193];exact H)|exact H
    have Ny193:=zM hy193;clear hy193;by_cases c10 : (strOfNums y193).size + a1.size ≤ 9223372036854775807
    ·
     rw [if_pos c10] at H;have c10b0:=eq_true c10;have c10b1 : decide ((strOfNums y193).size + a1.size ≤ 9223372036854775807) = true:=dT c10;try have c10b2 : (9223372036854775807 < (strOfNums y193).size + a1.size) = False:=eq_false (Nat.not_lt.2 c10)
     by_cases c11 : (strOfNums y193).size + a1.size + 1 ≤ 9223372036854775807
     ·
      rw [if_pos c11] at H;have c11b0:=eq_true c11;have c11b1 : decide ((strOfNums y193).size + a1.size + 1 ≤ 9223372036854775807) = true:=dT c11;try have c11b2 : (9223372036854775807 < (strOfNums y193).size + a1.size + 1) = False:=eq_false (Nat.not_lt.2 c11)
      simp only [Option.some.injEq,Prod.mk.injEq] at H;obtain ⟨rfl,rfl⟩:=H;obtain ⟨z0n,z0o,z0p,z0q,z0r,z0s,z0t,z0u,z0v,z0w⟩:=kc5 z00.out;go_wp2_with (first|((with_reducible refine gate_dst (N:=32) rfl ?_);refine Kd.R_lit (Kd.int .u8) _ 5 ?hg (N:=32) ?hd (xs:=([(((a0_0 * 32) % 256) + a0_1) % 256,a0_2,a0_3,a0_4] : List Int)) (inner:=[.int .u8 ((((a0_0 * 32) % 256) + a0_1) % 256),.int .u8 a0_2,.int .u8 a0_3,.int .u8 a0_4]) (ok:=fun _ => True) (okp:=fun _ => True) ?hr ?hp (fun _ hk => hk) trivial (Below.refl _ _) (Nat.le_refl _) (by simp) ?_;(case hd => rfl);(case hg => rfl);(case hr => first|(go_simp;done)|(go_simp;rfl));(case hp => exact (Reps.one (show Kd.M (Kd.int .u8) _ _ _ ((((a0_0 * 32) % 256) + a0_1) % 256) [.int .u8 ((((a0_0 * 32) % 256) + a0_1) % 256)] from rfl) (Reps.one (show Kd.M (Kd.int .u8) _ _ _ a0_2 [.int .u8 a0_2] from rfl) (Reps.one (show Kd.M (Kd.int .u8) _ _ _ a0_3 [.int .u8 a0_3] from rfl) (Reps.one (show Kd.M (Kd.int .u8) _ _ _ a0_4 [.int .u8 a0_4] from rfl) (Reps.none _ _))))));intro v194 w13 ho14 hb hg_ hnew_;clear hg_ hnew_;(first|rw [← Ny193.out] at ho14|(simp only [Int.reduceToNat] at ho14;rw [← Ny193.out] at ho14));have n0_:=zM (Kd.R_lower ho14 (yZ (by repeat first|(with_reducible first|exact HB.out|apply yA|apply yN|apply yD|refine yS ?_ z01.out)|exact HB.out)));have n1_:=zM (zB (g:=z02) (o:=.cells #[.int .u8 a0_0,.int .u8 a0_1,.int .u8 a0_2,.int .u8 a0_3,.int .u8 a0_4] 103 (0,0)) (by (with_reducible repeat first|apply zN|apply zD|apply zA);exact z00.out) hb);have n2_:=zM (yT (by repeat first|(with_reducible first|exact HB.out|apply yA|apply yN|apply yD|refine yS ?_ z01.out)|exact HB.out) hb);clear z00;clear HB;have z0x:=n0_;have z00:=n1_;have HB:=n2_;clear n0_ n1_ n2_;clear hb ho14;have hcv15:=own_string (P:=Try.prog) Try.underlying73 Try.underlying5 Try.underlying9 (Kd.own_of_R z0x.out)))
      go_ret2
      exact ⟨by first|rfl|(simp [errW_none,errW_some] <;> rfl)|(simp [*,errW_none,errW_some] <;> rfl),by repeat first|(with_reducible first|exact HB.out|apply yA|apply yN|apply yD|refine yS ?_ z01.out)|exact HB.out⟩
     rw [if_neg c11] at H;exact absurd H (by simp)
    rw [if_neg c10] at H;exact absurd H (by simp)
   rw [if_neg c9] at H;have c9b0 : ((a1.size : Int) == (wrap64 (a0_4))) = false:=beq_eq_false_iff_ne.mpr c9;have c9b1 : ((a1.size : Int) != (wrap64 (a0_4))) = true:=bne_iff_ne.mpr c9;simp only [Option.some.injEq,Prod.mk.injEq] at H;obtain ⟨rfl,rfl⟩:=H;obtain ⟨z0y,z0z,z10,z11,z12,z13,z14,z15,z16,z17⟩:=kc5 z00.out;go_wp2;go_ret2
   exact ⟨by first|rfl|(simp [errW_none,errW_some] <;> rfl)|(simp [*,errW_none,errW_some] <;> rfl),by repeat first|(with_reducible first|exact HB.out|apply yA|apply yN|apply yD|refine yS ?_ z01.out)|exact HB.out⟩

/-! ### carouselref01_bits: function 81 -/
def carouselref01_bits.l0 : Nat → Int → List Int → Int → Option (List Int × Bool)
  | 0, _, _, _ => none
  | k + 1, x0, x6, x7 => if x7 ≥ 0 then (if 0 ≤ x7 then (if x7 < (x6.length : Int) then (carouselref01_bits.l0 k (IntKind.u64.wrap (Int.tdiv x0 2)) (x6.set (x7 : Int).toNat (wrap64 (Int.tmod x0 2))) (wrap64 (x7 - 1))) else (none)) else (none)) else (some (x6, (x0 == 0)))
def carouselref01_bits.f (k : Nat) (a0 : Int) (a1 : Int) : Option (List Int × Bool) := if 0 ≤ a1 then (if (a1 : Int).toNat ≤ 35184372088832 then (carouselref01_bits.l0 k a0 (List.replicate (a1 : Int).toNat 0) (wrap64 (a1 - 1))) else (none)) else (none)
theorem carouselref01_bits.mono_l : ∀ k, (∀ y0 y1 y2, LeO (carouselref01_bits.l0 k y0 y1 y2) (carouselref01_bits.l0 (k + 1) y0 y1 y2))
 | 0 => fun _ _ _ r h => by simp [carouselref01_bits.l0] at h
 | k + 1 => by
  have ih0 := carouselref01_bits.mono_l k
  intro y0 y1 y2
  unfold carouselref01_bits.l0
  repeat' first
  | (with_reducible exact ih0 _ _ _)
  | (with_reducible exact LeO.refl _)
  | (with_reducible exact LeO.none _)
  | (with_reducible refine LeO.ite ?_ ?_)
  | (with_reducible refine LeO.bind ?_ (fun _ => ?_))
  | exact ih0 _ _ _
  | exact LeO.none _
  | refine LeO.ite ?_ ?_
  | refine LeO.bind ?_ (fun _ => ?_)
theorem carouselref01_bits.mono : ∀ a0 a1 k, LeO (carouselref01_bits.f k a0 a1) (carouselref01_bits.f (k + 1) a0 a1) := by
 intro a0 a1 k;have ih0:=carouselref01_bits.mono_l k;unfold carouselref01_bits.f
 repeat' first
  | (with_reducible exact ih0 _ _ _)
  | (with_reducible exact LeO.refl _)
  | (with_reducible exact LeO.none _)
  | (with_reducible refine LeO.ite ?_ ?_)
  | (with_reducible refine LeO.bind ?_ (fun _ => ?_))
  | exact ih0 _ _ _
  | exact LeO.none _
  | refine LeO.ite ?_ ?_
  | refine LeO.bind ?_ (fun _ => ?_)
set_option maxHeartbeats 8000000 in
set_option maxRecDepth 100000 in
theorem carouselref01_bits.calls (k : Nat) (a0 : Int) (a1 : Int) (r1 : List Int) (r2 : Bool) (w : World) (h : carouselref01_bits.f k a0 a1 = some (r1, r2)) :
  Calls Try.prog 81 #[.int .u64 a0, .int .i64 a1] w fun e w' => ∃ v0_ : Value, e = .returned (.tuple #[v0_, .bool r2]) ∧ Kd.R (Kd.int .i64) 3 w' w.heap.size (fun _ => True) v0_ r1 ∧ Below w.heap.size w w' := by
 have HB:=zM (Below.refl w.heap.size w);have H : (if 0 ≤ a1 then (if (a1 : Int).toNat ≤ 35184372088832 then (carouselref01_bits.l0 k a0 (List.replicate (a1 : Int).toNat 0) (wrap64 (a1 - 1))) else (none)) else (none)) = some (r1,r2):=h;clear h;by_cases c3 : 0 ≤ a1
 ·
  rw [if_pos c3] at H;have c3b0:=eq_true c3;have c3b1 : decide (0 ≤ a1) = true:=dT c3;clear c3;by_cases c4 : (a1 : Int).toNat ≤ 35184372088832
  ·
   rw [if_pos c4] at H;have c4b0:=eq_true c4;have c4b1 : decide ((a1 : Int).toNat ≤ 35184372088832) = true:=dT c4;clear c4;obtain ⟨y196,hy196⟩ : ∃ y_ : List Int,y_ = (List.replicate (a1 : Int).toNat 0):=⟨_,rfl⟩
   replace H : (carouselref01_bits.l0 k a0 y196 (wrap64 (a1 - 1))) = some (r1,r2):=by first|(rw [hy196];with_reducible exact H)|(have H2_:=(Option.bind_some _ _).symm.trans H;rw [hy196];with_reducible exact H2_)|(have H2_:=(Option.bind_some _ _).symm.trans H;with_reducible exact H2_)|with_reducible exact H|(rw [hy196];exact H)|exact H
   have Ny196:=zM hy196;clear hy196;have H':=zM H;clear H;go_enter Try.func81,Try.ntmps81
   go_wp2_with (first|((with_reducible refine gate_dst (N:=9) rfl ?_);refine Kd.R_make (Kd.int .i64) _ 3 rfl (N:=9) rfl 120 _ _ rfl a1 rfl rfl Try.underlying120 (.int .i64 0) 8 info3 rfl (by decide) (by omega) 0 (ok:=fun _ => True) (okp:=fun _ => True) rfl (fun _ hk => hk) trivial (of_decide_eq_true (by first|(with_reducible assumption)|assumption)) (Nat.le_trans (Nat.mul_le_mul_right _ (of_decide_eq_true (by first|(with_reducible assumption)|assumption) : a1.toNat ≤ 35184372088832)) (by omega)) (Below.refl _ _) (Nat.le_refl _) ?_;intro v197 w5 ho6 hb hg_ hnew_;clear hg_ hnew_;(first|rw [← Ny196.out] at ho6|(simp only [Int.reduceToNat] at ho6;rw [← Ny196.out] at ho6));have n0_:=zM (Kd.R_lower ho6 (yZ (by repeat first|(with_reducible first|exact HB.out|apply yA|apply yN|apply yD)|exact HB.out)));have n1_:=zM (yT (by repeat first|(with_reducible first|exact HB.out|apply yA|apply yN|apply yD)|exact HB.out) hb);clear HB;have z00:=n0_;have HB:=n1_;clear n0_ n1_;clear hb ho6))
   go_loopg [0,7] k (fun kq v0 v7 w' => ∃ (x0_1 : Int) (x6_1 : List Int) (x7_1 : Int),v0 = .int .u64 x0_1 ∧ v7 = .int .i64 x7_1 ∧ Aside0 (carouselref01_bits.l0 kq x0_1 x6_1 x7_1 = some (r1,r2)) ∧ Aside0 (kq ≤ k) ∧ Aside0 (Kd.R (Kd.int .i64) 3 w' w.heap.size (fun _ => True) v197 x6_1) ∧ Aside0 (Below w.heap.size w w'))
   case atStart => exact ⟨(a0),(y196),(wrap64 (a1 - 1)),(by first|rfl|(simp;done)|(simp [*];done)),(by first|rfl|(simp;done)|(simp [*];done)),H',⟨Nat.le_refl _⟩,⟨by (with_reducible repeat (first|apply Kd.R_alloc|apply Kd.R_drewN|apply Kd.R_drew));exact z00.out⟩,⟨by repeat first|(with_reducible first|exact HB.out|apply yA|apply yN|apply yD)|exact HB.out⟩⟩
   case round =>
    clear H';try clear p2
    try clear c3
    try clear c3b0
    try clear c3b1
    try clear c4
    try clear c4b0
    try clear c4b1
    try clear p6
    obtain ⟨x0_1,x6_1,x7_1,rfl,rfl,HA,HK1,HO_6,HB⟩:=hrel;cases gk with
   | zero => exact absurd HA.out (by simp [carouselref01_bits.l0])
   | succ k1 =>
     have H:=HA.out;clear HA;simp only [carouselref01_bits.l0] at H;by_cases c7 : x7_1 ≥ 0
     ·
      rw [if_pos c7] at H;have c7b0 : decide (0 ≤ x7_1) = true:=dT c7;clear c7;by_cases c8 : 0 ≤ x7_1
      ·
       rw [if_pos c8] at H;have c8b0 : decide (0 ≤ x7_1) = true:=dT c8;clear c8;by_cases c9 : x7_1 < (x6_1.length : Int)
       ·
        rw [if_pos c9] at H;have c9b0 : decide (x7_1 < (x6_1.length : Int)) = true:=dT c9;clear c9;obtain ⟨y199,hy199⟩ : ∃ y_ : List Int,y_ = (x6_1.set (x7_1 : Int).toNat (wrap64 (Int.tmod x0_1 2))):=⟨_,rfl⟩
        replace H : (carouselref01_bits.l0 k1 (IntKind.u64.wrap (Int.tdiv x0_1 2)) y199 (wrap64 (x7_1 - 1))) = some (r1,r2):=by first|(rw [hy199];with_reducible exact H)|(have H2_:=(Option.bind_some _ _).symm.trans H;rw [hy199];with_reducible exact H2_)|(have H2_:=(Option.bind_some _ _).symm.trans H;with_reducible exact H2_)|with_reducible exact H|(rw [hy199];exact H)|exact H
        have Ny199:=zM hy199;clear hy199;have H':=zM H;clear H;have p10 : 0 ≤ (x7_1 : Int):=of_decide_eq_true (by first|(with_reducible assumption)|assumption);have q10 : (x7_1 : Int) < ((x6_1.length : Int) : Int):=of_decide_eq_true (by first|(with_reducible assumption)|assumption);obtain ⟨go10,co10,eo10,z01,gl10,cl10,HG10⟩:=Kd.R_form HO_6.out (by omega);(first|cases eo10|(injection eo10 with ea_ en_ ec_;(first|subst ea_|(injection ea_ with ea_;subst ea_));subst ec_;clear en_))
        have GB10:=zM z01;have GG10:=zM HG10;clear z01 gl10 HG10;obtain ⟨z02,hf10_0⟩:=Kd.R_celln 0 HO_6.out (x7_1 : Int) p10 q10;replace p10:=eq_true p10;replace q10:=eq_true q10;have HP11:=Kd.R_putg HO_6.out (x7_1 : Int) (wrap64 (Int.tmod x0_1 2));go_wp2_with (first|((with_reducible refine gate_store (t:=3) (p:=21) rfl ?_);refine store_event (t:=3) (p:=21) (v:=?vo_w12) (w1:=(wr.setCell ⟨go10,(x7_1 : Int).toNat,none⟩ (.int .i64 (wrap64 (Int.tmod x0_1 2))))) ?hg ?ho ?hn ?hr ?_;(case ho => rfl);(case hg => rfl);(case hn => rfl);(case hr => first|(go_simp;done)|(go_simp;rfl));intro w12 hw;have hg : wr.grownBy w12 (some go10):=(by rw [hw];exact HP11.2);have hp_ : Kd.R (Kd.int .i64) 3 w12 w.heap.size (fun _ => True) (.slice (some ⟨go10,0,none⟩) x6_1.length co10) y199:=(by rw [hw,Ny199.out];exact HP11.1);clear HP11;have n0_:=zM (hp_);have n1_:=zM ((by rw [hw];exact yS (HB.out) GB10.out : Below w.heap.size w w12));clear HO_6;clear HB;have HO_6:=n0_;have HB:=n1_;clear n0_ n1_;clear hg hw hp_))
        go_roundg k1
        case measure => have:=HK1.out;omega
        case rel => exact ⟨(IntKind.u64.wrap (Int.tdiv x0_1 2)),(y199),(wrap64 (x7_1 - 1)),(by first|rfl|(simp;done)|(simp [*];done)),(by first|rfl|(simp;done)|(simp [*];done)),H',⟨by have:=HK1.out;omega⟩,⟨by (with_reducible repeat (first|apply Kd.R_alloc|apply Kd.R_drewN|apply Kd.R_drew));exact HO_6.out⟩,⟨by repeat first|(with_reducible first|exact HB.out|apply yA|apply yN|apply yD)|exact HB.out⟩⟩
       rw [if_neg c9] at H;exact absurd H (by simp)
      rw [if_neg c8] at H;exact absurd H (by simp)
     rw [if_neg c7] at H;have c7b0 : decide (0 ≤ x7_1) = false:=dF c7;clear c7;simp only [Option.some.injEq,Prod.mk.injEq] at H;obtain ⟨rfl,rfl⟩:=H;go_wp2;go_ret2
     exact ⟨_,by first|rfl|(simp [errW_none,errW_some] <;> rfl)|(simp [*,errW_none,errW_some] <;> rfl),by (with_reducible repeat (first|apply Kd.R_alloc|apply Kd.R_drewN|apply Kd.R_drew));exact HO_6.out,by repeat first|(with_reducible first|exact HB.out|apply yA|apply yN|apply yD)|exact HB.out⟩
  rw [if_neg c4] at H;exact absurd H (by simp)
 rw [if_neg c3] at H;exact absurd H (by simp)

end Go.Proofs.Ytapicoienpbdfaa.PWatchPlays
