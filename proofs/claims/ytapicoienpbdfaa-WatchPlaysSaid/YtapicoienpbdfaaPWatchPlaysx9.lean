-- Written by a program of this work, after the translation.
import Derived.Test.YtapicoienpbdfaaPWatchPlaysx0
import Derived.Test.YtapicoienpbdfaaPWatchPlaysx2
import Derived.Test.YtapicoienpbdfaaPWatchPlaysx7
import Derived.Test.YtapicoienpbdfaaPWatchPlaysx8
namespace Go.Proofs.Ytapicoienpbdfaa.PWatchPlays
open Go.RowKit Go.Proofs.YtapicoienpbdfaaW.PrintWords Go.Proofs.YtapicoienpbdfaaW.PrintLast Go.Proofs.YtapicoienpbdfaaW.PrintMore
attribute [local go_sem] max2_int min2_int max_two min_two max_three min_three max_four min_four   -- for this text's walks alone
set_option linter.unusedVariables false
set_option linter.unusedSimpArgs false

/-! ### ccm_Open: function 29 -/
mutual
def ccm_Open.j0 : Nat → ByteArray → Int → Int → Int → Int → Int → Int → Option (Bool × Int × Int × Int × ByteArray × Int)
  | 0, _, _, _, _, _, _, _ => none
  | k + 1, x7, x8, x252000, x252001, x252002, x252003, x252004 => if x8 = 0 then ((field_Split.f k x7 (([32, 3, 13] : List Int))).bind fun bt256 => (if bt256.2.2 = 0 then (if 1 < (bt256.1.length : Int) then (if (rd bt256.1 1) = 0 then (if (Go.bits .and .u8 x252003 120) = 0 then (if 48 ≤ (bt256.2.1.size : Int) then ((field_Noughts.f k (bt256.2.1.extract 48 bt256.2.1.size)).bind fun t262 => (ccm_Open.j1 k bt256.1 bt256.2.1 (!t262) x252000 x252001 x252002 x252003 x252004)) else (none)) else (ccm_Open.j1 k bt256.1 bt256.2.1 true x252000 x252001 x252002 x252003 x252004)) else (ccm_Open.j1 k bt256.1 bt256.2.1 true x252000 x252001 x252002 x252003 x252004)) else (none)) else (some (false, 0, 0, 0, (⟨#[]⟩ : ByteArray), bt256.2.2)))) else (some (false, 0, 0, 0, (⟨#[]⟩ : ByteArray), x8))
def ccm_Open.j1 : Nat → List Int → ByteArray → Bool → Int → Int → Int → Int → Int → Option (Bool × Int × Int × Int × ByteArray × Int)
  | 0, _, _, _, _, _, _, _, _ => none
  | k + 1, x9, x10, x40, x252000, x252001, x252002, x252003, x252004 => if x40 = true then (some (false, 0, 0, 0, (⟨#[]⟩ : ByteArray), 3)) else (if 0 < (x9.length : Int) then (if 2 < (x9.length : Int) then (if 0 ≤ 48 then (if 48 ≤ (x10.size : Int) then ((ccm_Msg_wrong.f k ((Go.bits .and .u8 x252003 128) != 0) (Go.bits .and .u8 x252003 7) ((rd x9 0) % 4294967296) (IntKind.u16.wrap (rd x9 2)) (x10.extract 0 48)).bind fun t266 => (if t266 = 0 then (some (((Go.bits .and .u8 x252003 128) != 0), Go.bits .and .u8 x252003 7, (rd x9 0) % 4294967296, IntKind.u16.wrap (rd x9 2), x10.extract 0 48, 0)) else (some (false, 0, 0, 0, (⟨#[]⟩ : ByteArray), t266)))) else (none)) else (none)) else (none)) else (none))
end
def ccm_Open.f (k : Nat) (a0 : ByteArray) (a1 : Int) : Option (Bool × Int × Int × Int × ByteArray × Int) := (oam_Open.f k a0).bind fun bt244 => (if bt244.2.2.2.2.2.2 = 0 then ((oam_Head_Is.f k bt244.1 bt244.2.1 bt244.2.2.1 bt244.2.2.2.1 bt244.2.2.2.2.1 a1 0 1 70).bind fun t252 => (ccm_Open.j0 k bt244.2.2.2.2.2.1 t252 bt244.1 bt244.2.1 bt244.2.2.1 bt244.2.2.2.1 bt244.2.2.2.2.1)) else (ccm_Open.j0 k bt244.2.2.2.2.2.1 bt244.2.2.2.2.2.2 bt244.1 bt244.2.1 bt244.2.2.1 bt244.2.2.2.1 bt244.2.2.2.2.1))
theorem ccm_Open.mono_l : ∀ k, (∀ y0 y1 y2 y3 y4 y5 y6, LeO (ccm_Open.j0 k y0 y1 y2 y3 y4 y5 y6) (ccm_Open.j0 (k + 1) y0 y1 y2 y3 y4 y5 y6)) ∧ (∀ y0 y1 y2 y3 y4 y5 y6 y7, LeO (ccm_Open.j1 k y0 y1 y2 y3 y4 y5 y6 y7) (ccm_Open.j1 (k + 1) y0 y1 y2 y3 y4 y5 y6 y7))
 | 0 => ⟨fun _ _ _ _ _ _ _ r h => by simp [ccm_Open.j0] at h, fun _ _ _ _ _ _ _ _ r h => by simp [ccm_Open.j1] at h⟩
 | k + 1 => by
  obtain ⟨ih0, ih1⟩ := ccm_Open.mono_l k
  refine ⟨?_, ?_⟩
  ·
   intro y0 y1 y2 y3 y4 y5 y6
   unfold ccm_Open.j0
   repeat' first
   | (with_reducible exact ih0 _ _ _ _ _ _ _)
   | (with_reducible exact ih1 _ _ _ _ _ _ _ _)
   | (with_reducible exact ccm_Msg_wrong.mono _ _ _ _ _ _)
   | (with_reducible exact field_Noughts.mono _ _)
   | (with_reducible exact field_Split.mono _ _ _)
   | (with_reducible exact oam_Head_Is.mono _ _ _ _ _ _ _ _ _ _)
   | (with_reducible exact oam_Open.mono _ _)
   | (with_reducible exact LeO.refl _)
   | (with_reducible exact LeO.none _)
   | (with_reducible refine LeO.ite ?_ ?_)
   | (with_reducible refine LeO.bind ?_ (fun _ => ?_))
   | exact ih0 _ _ _ _ _ _ _
   | exact ih1 _ _ _ _ _ _ _ _
   | exact ccm_Msg_wrong.mono _ _ _ _ _ _
   | exact field_Noughts.mono _ _
   | exact field_Split.mono _ _ _
   | exact oam_Head_Is.mono _ _ _ _ _ _ _ _ _ _
   | exact oam_Open.mono _ _
   | exact LeO.none _
   | refine LeO.ite ?_ ?_
   | refine LeO.bind ?_ (fun _ => ?_)
  intro y0 y1 y2 y3 y4 y5 y6 y7
  unfold ccm_Open.j1
  repeat' first
  | (with_reducible exact ih0 _ _ _ _ _ _ _)
  | (with_reducible exact ih1 _ _ _ _ _ _ _ _)
  | (with_reducible exact ccm_Msg_wrong.mono _ _ _ _ _ _)
  | (with_reducible exact field_Noughts.mono _ _)
  | (with_reducible exact field_Split.mono _ _ _)
  | (with_reducible exact oam_Head_Is.mono _ _ _ _ _ _ _ _ _ _)
  | (with_reducible exact oam_Open.mono _ _)
  | (with_reducible exact LeO.refl _)
  | (with_reducible exact LeO.none _)
  | (with_reducible refine LeO.ite ?_ ?_)
  | (with_reducible refine LeO.bind ?_ (fun _ => ?_))
  | exact ih0 _ _ _ _ _ _ _
  | exact ih1 _ _ _ _ _ _ _ _
  | exact ccm_Msg_wrong.mono _ _ _ _ _ _
  | exact field_Noughts.mono _ _
  | exact field_Split.mono _ _ _
  | exact oam_Head_Is.mono _ _ _ _ _ _ _ _ _ _
  | exact oam_Open.mono _ _
  | exact LeO.none _
  | refine LeO.ite ?_ ?_
  | refine LeO.bind ?_ (fun _ => ?_)
theorem ccm_Open.mono : ∀ a0 a1 k, LeO (ccm_Open.f k a0 a1) (ccm_Open.f (k + 1) a0 a1) := by
 intro a0 a1 k;obtain ⟨ih0,ih1⟩:=ccm_Open.mono_l k;unfold ccm_Open.f
 repeat' first
  | (with_reducible exact ih0 _ _ _ _ _ _ _)
  | (with_reducible exact ih1 _ _ _ _ _ _ _ _)
  | (with_reducible exact ccm_Msg_wrong.mono _ _ _ _ _ _)
  | (with_reducible exact field_Noughts.mono _ _)
  | (with_reducible exact field_Split.mono _ _ _)
  | (with_reducible exact oam_Head_Is.mono _ _ _ _ _ _ _ _ _ _)
  | (with_reducible exact oam_Open.mono _ _)
  | (with_reducible exact LeO.refl _)
  | (with_reducible exact LeO.none _)
  | (with_reducible refine LeO.ite ?_ ?_)
  | (with_reducible refine LeO.bind ?_ (fun _ => ?_))
  | exact ih0 _ _ _ _ _ _ _
  | exact ih1 _ _ _ _ _ _ _ _
  | exact ccm_Msg_wrong.mono _ _ _ _ _ _
  | exact field_Noughts.mono _ _
  | exact field_Split.mono _ _ _
  | exact oam_Head_Is.mono _ _ _ _ _ _ _ _ _ _
  | exact oam_Open.mono _ _
  | exact LeO.none _
  | refine LeO.ite ?_ ?_
  | refine LeO.bind ?_ (fun _ => ?_)
def ccm_Open.T11 : Bool × List (List Nat × List Nat) := (true, [([], []), ([0], [0]), ([1], [1]), ([2], [2]), ([], []), ([4], [4]), ([5], [5]), ([], []), ([7], [7]), ([8], [8]), ([9], [9]), ([], []), ([11], [11]), ([12], [12]), ([13], [13]), ([], []), ([15], [15]), ([3, 6, 10, 14, 16], [3, 6, 10, 14, 16]), ([], []), ([18, 17, 0, 1, 2, 3, 4, 5, 6, 7, 8, 9, 10, 11, 12, 13, 14, 15, 16, 17, 18], [17, 18])])
def ccm_Open.B11 : List Nat := [0, 1, 3, 7, 0, 16, 48, 0, 128, 384, 896, 0, 2048, 6144, 14336, 0, 32768, 131071, 0, 524287]
theorem ccm_Open.tab11 : rtab .any (opsOf Try.f29 11) = ccm_Open.T11 := by kernel_rfl
theorem ccm_Open.bits11 : waitsOk ccm_Open.T11.2 ccm_Open.B11 = true := by kernel_rfl
set_option maxHeartbeats 8000000 in
set_option maxRecDepth 100000 in
theorem ccm_Open.calls (k : Nat) (a0 : ByteArray) (a1 : Int) (r1 : Bool) (r2 : Int) (r3 : Int) (r4 : Int) (r5 : ByteArray) (r6 : Int) (w : World) (h : ccm_Open.f k a0 a1 = some (r1, r2, r3, r4, r5, r6)) :
  Calls Try.prog 29 #[.string a0, .int .u8 a1] w fun e w' => e = .returned (.tuple #[.agg #[.bool r1, .int .u8 r2, .int .u32 r3, .int .u16 r4, .string r5], .int .i64 r6]) ∧ Below w.heap.size w w' := by
 have hu62:=Try.underlying62;have hu84:=Try.underlying84;have HB:=zM (Below.refl w.heap.size w);have H : ((oam_Open.f k a0).bind fun bt244 => (if bt244.2.2.2.2.2.2 = 0 then ((oam_Head_Is.f k bt244.1 bt244.2.1 bt244.2.2.1 bt244.2.2.2.1 bt244.2.2.2.2.1 a1 0 1 70).bind fun z1z => (ccm_Open.j0 k bt244.2.2.2.2.2.1 z1z bt244.1 bt244.2.1 bt244.2.2.1 bt244.2.2.2.1 bt244.2.2.2.2.1)) else (ccm_Open.j0 k bt244.2.2.2.2.2.1 bt244.2.2.2.2.2.2 bt244.1 bt244.2.1 bt244.2.2.1 bt244.2.2.2.1 bt244.2.2.2.2.1))) = some (r1,r2,r3,r4,r5,r6):=h;clear h;replace H:=Option.bind_eq_some_iff.mp H;obtain ⟨⟨z0j,z0k,z0l,z09,z0n,z1c,z1d⟩,A30,H⟩:=H;try dsimp only at H
 have A3:=zM A30;clear A30;have HC4:=zM H;clear H;go_enter Try.func29,Try.ntmps29
 go_upto_if 20 with (first|((with_reducible refine gate_dst (N:=4) rfl ?_);refine box_event ?hg (N:=4) ?hd (cs:=#[.bool false,.int .u8 0,.int .u32 0,.int .u16 0,.string (⟨#[]⟩ : ByteArray)]) (t:=62) ?hr ?_;(case hd => rfl);(case hg => rfl);(case hr => first|(go_simp;done)|(go_simp;rfl));intro z0c hg w5 hbox hb;have n0_:=zM (yT (by repeat first|(with_reducible first|exact HB.out|apply yA|apply yN|apply yD)|exact HB.out) hb);have n1_:=zM (hbox);have n2_:=zM ((by rw [hg];exact (yZ (by repeat first|(with_reducible first|exact HB.out|apply yA|apply yN|apply yD)|exact HB.out)) : w.heap.size ≤ z0c));have n3_:=zM ((by rw [hg];exact (yZ (by repeat first|(with_reducible first|exact HB.out|apply yA|apply yN|apply yD)|exact HB.out)) : w.heap.size ≤ z0c));clear HB;have HB:=n0_;have z05:=n1_;have z4b:=n2_;have z0d:=n3_;clear n0_ n1_ n2_ n3_;clear hb hbox hg)|((with_reducible refine gate_callee (f:=43) rfl ?_);refine goesL_ (some 15) rfl rfl Try.func43 (by kernel_rfl) rfl #[.string a0] rfl (by (try simp only [List.map_toArray,List.map_cons,List.map_nil]);first|done|rfl|(simp only [List.length_drop,List.length_take];rfl)) ?_;(with_reducible refine (oam_Open.calls k a0 z0j z0k z0l z09 z0n z1c z1d _ A3.out).mono ?_);rintro e w6 ⟨rfl,hb⟩;refine ⟨_,rfl,?_⟩;have n0_:=zM (zB (g:=z0c) (o:=.cells #[.bool false,.int .u8 0,.int .u32 0,.int .u16 0,.string (⟨#[]⟩ : ByteArray)] 62 (0,0)) (by (with_reducible repeat first|apply zN|apply zD|apply zA);exact z05.out) hb);have n1_:=zM (yT (by repeat first|(with_reducible first|exact HB.out|apply yA|apply yN|apply yD|refine yS ?_ z0d.out)|exact HB.out) hb);clear z05;clear HB;have z05:=n0_;have HB:=n1_;clear n0_ n1_;(try clear hb);(try clear hb2);(try clear hk);(try clear hi))|((with_reducible refine gate_dst (N:=6) rfl ?_);refine box_event ?hg (N:=6) ?hd (cs:=#[.int .u8 0,.int .u8 0,.int .u8 0,.int .u8 0,.int .u8 0]) (t:=84) ?hr ?_;(case hd => rfl);(case hg => rfl);(case hr => first|(go_simp;done)|(go_simp;rfl));intro z0b hg w7 hbox hb;have n0_:=zM (zB (g:=z0c) (o:=.cells #[.bool false,.int .u8 0,.int .u32 0,.int .u16 0,.string (⟨#[]⟩ : ByteArray)] 62 (0,0)) (by (with_reducible repeat first|apply zN|apply zD|apply zA);exact z05.out) hb);have n1_:=zM (yT (by repeat first|(with_reducible first|exact HB.out|apply yA|apply yN|apply yD|refine yS ?_ z0d.out)|exact HB.out) hb);have n2_:=zM (hbox);have n3_:=zM ((by rw [hg];exact (yZ (by repeat first|(with_reducible first|exact HB.out|apply yA|apply yN|apply yD|refine yS ?_ z0d.out)|exact HB.out)) : w.heap.size ≤ z0b));have n4_:=zM ((by rw [hg];exact (yZ (by repeat first|(with_reducible first|exact HB.out|apply yA|apply yN|apply yD|refine yS ?_ z0d.out)|exact HB.out)) : w.heap.size ≤ z0b));have n5_:=zM ((by rw [hg];exact Nat.ne_of_lt (blk_lt (g:=z0c) (o:=.cells #[.bool false,.int .u8 0,.int .u32 0,.int .u16 0,.string (⟨#[]⟩ : ByteArray)] 62 (0,0)) (by (with_reducible repeat first|apply zN|apply zD|apply zA);exact z05.out)) : z0c ≠ z0b));have n6_:=zM ((by rw [hg];exact Nat.ne_of_gt (blk_lt (g:=z0c) (o:=.cells #[.bool false,.int .u8 0,.int .u32 0,.int .u16 0,.string (⟨#[]⟩ : ByteArray)] 62 (0,0)) (by (with_reducible repeat first|apply zN|apply zD|apply zA);exact z05.out)) : z0b ≠ z0c));clear z05;clear HB;have z05:=n0_;have HB:=n1_;have z04:=n2_;have z4c:=n3_;have z0f:=n4_;have z06:=n5_;have z0e:=n6_;clear n0_ n1_ n2_ n3_ n4_ n5_ n6_;clear hb hbox hg;have z51:=z0e.out;have z52:=z06.out;obtain ⟨z12,z13,z14,z15,z16,z17,z18,z19,z1a,z1b⟩:=kc5 z04.out))
 (try simp only [Act.put,sA,sB,sC])
 go_cut [8] (fun v8 wc => ∃ (kq : Nat) (x8_3 : Int),v8 = .int .i64 x8_3 ∧ Aside0 (ccm_Open.j0 kq z1c x8_3 z0j z0k z0l z09 z0n = some (r1,r2,r3,r4,r5,r6)) ∧ Aside0 (kq ≤ k) ∧ Aside0 (wc.heap[z0c]? = some (.cells #[.bool false,.int .u8 0,.int .u32 0,.int .u16 0,.string (⟨#[]⟩ : ByteArray)] 62 (0,0))) ∧ Aside0 (wc.heap[z0b]? = some (.cells #[.int .u8 z0j,.int .u8 z0k,.int .u8 z0l,.int .u8 z09,.int .u8 z0n] 84 (0,0))) ∧ Aside0 (Below w.heap.size w wc))
 case first =>
  have H:=HC4.out;clear HC4;by_cases c10 : z1d = 0
  ·
   rw [if_pos c10] at H;have c10b0 : (z1d == 0) = true:=beq_iff_eq.mpr c10;have c10b1 : (z1d != 0) = false:=bne_eq_false_iff_eq.mpr c10;clear c10;(first|rw [c10b0]|(simp only [i64_w,i32_w];rw [c10b0])|skip)
   replace H:=Option.bind_eq_some_iff.mp H;obtain ⟨z1z,A110,H⟩:=H;try dsimp only at H
   have A11:=zM A110;clear A110;have H':=zM H;clear H;have z4d:=z0e.out;have z4e:=z06.out;obtain ⟨z0q,z0r,z0s,z0t,z0u,z0v,z0w,z0x,z0y,z0z⟩:=kc5 z04.out;go_wp2_with (first|((with_reducible refine gate_callee (f:=44) rfl ?_);refine goesL_ (some 23) rfl rfl Try.func44 (by kernel_rfl) rfl #[.agg #[.int .u8 z0j,.int .u8 z0k,.int .u8 z0l,.int .u8 z09,.int .u8 z0n],.int .u8 a1,.int .u8 0,.int .u8 1,.int .u8 70] rfl (by (try simp only [List.map_toArray,List.map_cons,List.map_nil]);first|done|rfl|(simp only [List.length_drop,List.length_take];rfl)) ?_;(with_reducible refine (oam_Head_Is.calls k z0j z0k z0l z09 z0n a1 0 1 70 z1z _ A11.out).mono ?_);rintro e w14 ⟨rfl,hb⟩;refine ⟨_,rfl,?_⟩;have n0_:=zM (zB (g:=z0c) (o:=.cells #[.bool false,.int .u8 0,.int .u32 0,.int .u16 0,.string (⟨#[]⟩ : ByteArray)] 62 (0,0)) (by (with_reducible repeat first|apply zN|apply zD|apply zA);refine zG ?_ z06.out _;(with_reducible repeat first|apply zN|apply zD|apply zA);refine zG ?_ z06.out _;(with_reducible repeat first|apply zN|apply zD|apply zA);refine zG ?_ z06.out _;(with_reducible repeat first|apply zN|apply zD|apply zA);refine zG ?_ z06.out _;(with_reducible repeat first|apply zN|apply zD|apply zA);refine zG ?_ z06.out _;(with_reducible repeat first|apply zN|apply zD|apply zA);exact z05.out) hb);have n1_:=zM (zB (g:=z0b) (o:=.cells #[.int .u8 z0j,.int .u8 z0k,.int .u8 z0l,.int .u8 z09,.int .u8 z0n] 84 (0,0)) (by (with_reducible repeat first|apply zN|apply zD|apply zA);refine zP (cs:=#[.int .u8 z0j,.int .u8 z0k,.int .u8 z0l,.int .u8 z09,.int .u8 0]) ?_ 4 _ rfl;(with_reducible repeat first|apply zN|apply zD|apply zA);refine zP (cs:=#[.int .u8 z0j,.int .u8 z0k,.int .u8 z0l,.int .u8 0,.int .u8 0]) ?_ 3 _ rfl;(with_reducible repeat first|apply zN|apply zD|apply zA);refine zP (cs:=#[.int .u8 z0j,.int .u8 z0k,.int .u8 0,.int .u8 0,.int .u8 0]) ?_ 2 _ rfl;(with_reducible repeat first|apply zN|apply zD|apply zA);refine zP (cs:=#[.int .u8 z0j,.int .u8 0,.int .u8 0,.int .u8 0,.int .u8 0]) ?_ 1 _ rfl;(with_reducible repeat first|apply zN|apply zD|apply zA);refine zP (cs:=#[.int .u8 0,.int .u8 0,.int .u8 0,.int .u8 0,.int .u8 0]) ?_ 0 _ rfl;(with_reducible repeat first|apply zN|apply zD|apply zA);exact z04.out) hb);have n2_:=zM (yT (by repeat (first|(with_reducible first|exact HB.out|apply yA|apply yN|apply yD|refine yS ?_ z0d.out|refine yS ?_ z0f.out)|exact HB.out)) hb);clear z05;clear z04;clear HB;have z05:=n0_;have z04:=n1_;have HB:=n2_;clear n0_ n1_ n2_;(try clear hb);(try clear hb2);(try clear hk);(try clear hi)))
   go_meet
   case rel => exact ⟨_,(z1z),(by first|rfl|(simp;done)|(simp [*];done)),H',⟨by first|omega|exact Nat.le_refl _⟩,⟨by (with_reducible repeat first|apply zN|apply zD|apply zA);exact z05.out⟩,⟨by (with_reducible repeat first|apply zN|apply zD|apply zA);exact z04.out⟩,⟨by repeat (first|(with_reducible first|exact HB.out|apply yA|apply yN|apply yD|refine yS ?_ z0d.out|refine yS ?_ z0f.out)|exact HB.out)⟩⟩
  rw [if_neg c10] at H;have c10b0 : (z1d == 0) = false:=beq_eq_false_iff_ne.mpr c10;have c10b1 : (z1d != 0) = true:=bne_iff_ne.mpr c10;(first|rw [c10b0]|(simp only [i64_w,i32_w];rw [c10b0])|skip)
  have H':=zM H;clear H;go_wp2;go_meet
  case rel => exact ⟨_,(z1d),(by first|rfl|(simp;done)|(simp [*];done)),H',⟨by first|omega|exact Nat.le_refl _⟩,⟨by (with_reducible repeat first|apply zN|apply zD|apply zA);refine zG ?_ z06.out _;(with_reducible repeat first|apply zN|apply zD|apply zA);refine zG ?_ z06.out _;(with_reducible repeat first|apply zN|apply zD|apply zA);refine zG ?_ z06.out _;(with_reducible repeat first|apply zN|apply zD|apply zA);refine zG ?_ z06.out _;(with_reducible repeat first|apply zN|apply zD|apply zA);refine zG ?_ z06.out _;(with_reducible repeat first|apply zN|apply zD|apply zA);exact z05.out⟩,⟨by (with_reducible repeat first|apply zN|apply zD|apply zA);refine zP (cs:=#[.int .u8 z0j,.int .u8 z0k,.int .u8 z0l,.int .u8 z09,.int .u8 0]) ?_ 4 _ rfl;(with_reducible repeat first|apply zN|apply zD|apply zA);refine zP (cs:=#[.int .u8 z0j,.int .u8 z0k,.int .u8 z0l,.int .u8 0,.int .u8 0]) ?_ 3 _ rfl;(with_reducible repeat first|apply zN|apply zD|apply zA);refine zP (cs:=#[.int .u8 z0j,.int .u8 z0k,.int .u8 0,.int .u8 0,.int .u8 0]) ?_ 2 _ rfl;(with_reducible repeat first|apply zN|apply zD|apply zA);refine zP (cs:=#[.int .u8 z0j,.int .u8 0,.int .u8 0,.int .u8 0,.int .u8 0]) ?_ 1 _ rfl;(with_reducible repeat first|apply zN|apply zD|apply zA);refine zP (cs:=#[.int .u8 0,.int .u8 0,.int .u8 0,.int .u8 0,.int .u8 0]) ?_ 0 _ rfl;(with_reducible repeat first|apply zN|apply zD|apply zA);exact z04.out⟩,⟨by repeat (first|(with_reducible first|exact HB.out|apply yA|apply yN|apply yD|refine yS ?_ z0d.out|refine yS ?_ z0f.out)|exact HB.out)⟩⟩
 case rest =>
  clear HC4;try clear c1
  try clear c2
  try clear p2
  try clear c4
  try clear c8
  try clear c10
  try clear c10b0
  try clear c10b1
  try clear c12
  try clear z0q
  try clear z0r
  try clear z0s
  try clear z0t
  try clear z0u
  try clear z12
  try clear z13
  try clear z14
  try clear z15
  try clear z16
  try clear z0v
  try clear z0w
  try clear z0x
  try clear z0y
  try clear z0z
  try clear z17
  try clear z18
  try clear z19
  try clear z1a
  try clear z1b
  obtain ⟨kq,x8_3,rfl,HA,HJ3,z05,z04,HB⟩:=hcut;cases kq with
 | zero => exact absurd HA.out (by simp [ccm_Open.j0])
 | succ kj3 =>
   have H:=HA.out;clear HA;simp only [ccm_Open.j0] at H;by_cases c15 : x8_3 = 0
   ·
    rw [if_pos c15] at H;have c15b0 : (x8_3 == 0) = true:=beq_iff_eq.mpr c15;have c15b1 : (x8_3 != 0) = false:=bne_eq_false_iff_eq.mpr c15;clear c15;obtain ⟨y253,hy253⟩ : ∃ y_ : List Int,y_ = (([32,3,13] : List Int)):=⟨_,rfl⟩
    replace H : ((field_Split.f kj3 z1c y253).bind fun bt256 => (if bt256.2.2 = 0 then (if 1 < (bt256.1.length : Int) then (if (rd bt256.1 1) = 0 then (if (Go.bits .and .u8 z09 120) = 0 then (if 48 ≤ (bt256.2.1.size : Int) then ((field_Noughts.f kj3 (bt256.2.1.extract 48 bt256.2.1.size)).bind fun z20 => (ccm_Open.j1 kj3 bt256.1 bt256.2.1 (!z20) z0j z0k z0l z09 z0n)) else (none)) else (ccm_Open.j1 kj3 bt256.1 bt256.2.1 true z0j z0k z0l z09 z0n)) else (ccm_Open.j1 kj3 bt256.1 bt256.2.1 true z0j z0k z0l z09 z0n)) else (none)) else (some (false,0,0,0,(⟨#[]⟩ : ByteArray),bt256.2.2)))) = some (r1,r2,r3,r4,r5,r6):=by first|(rw [hy253];with_reducible exact H)|(have H2_:=(Option.bind_some _ _).symm.trans H;rw [hy253];with_reducible exact H2_)|(have H2_:=(Option.bind_some _ _).symm.trans H;with_reducible exact H2_)|with_reducible exact H|(rw [hy253];exact H)|exact H
    have Ny253:=zM hy253;clear hy253;replace H:=Option.bind_eq_some_iff.mp H;obtain ⟨⟨z0a,z0o,z1e⟩,A160,H⟩:=H;try dsimp only at H
    have A16:=zM A160;clear A160;by_cases c17 : z1e = 0
    ·
     rw [if_pos c17] at H;have c17b0 : (z1e == 0) = true:=beq_iff_eq.mpr c17;have c17b1 : (z1e != 0) = false:=bne_eq_false_iff_eq.mpr c17;clear c17;have z21:=zM H;clear H;go_upto_region 9 with (first|((with_reducible refine gate_dst (N:=30) rfl ?_);refine Kd.R_lit (Kd.int .i64) _ 3 ?hg (N:=30) ?hd (xs:=([32,3,13] : List Int)) (inner:=[.int .i64 32,.int .i64 3,.int .i64 13]) (ok:=fun _ => True) (okp:=fun _ => True) ?hr ?hp (fun _ hk => hk) trivial (Below.refl _ _) (Nat.le_refl _) (by simp) ?_;(case hd => rfl);(case hg => rfl);(case hr => first|(go_simp;done)|(go_simp;rfl));(case hp => exact (Reps.one (show Kd.M (Kd.int .i64) _ _ _ 32 [.int .i64 32] from rfl) (Reps.one (show Kd.M (Kd.int .i64) _ _ _ 3 [.int .i64 3] from rfl) (Reps.one (show Kd.M (Kd.int .i64) _ _ _ 13 [.int .i64 13] from rfl) (Reps.none _ _)))));intro v254 w19 ho20 hb hg_ hnew_;clear hg_ hnew_;(first|rw [← Ny253.out] at ho20|(simp only [Int.reduceToNat] at ho20;rw [← Ny253.out] at ho20));have n0_:=zM (Kd.R_lower ho20 (yZ (by repeat (first|(with_reducible first|exact HB.out|apply yA|apply yN|apply yD|refine yS ?_ z0d.out|refine yS ?_ z0f.out)|exact HB.out))));have n1_:=zM (zB (g:=z0c) (o:=.cells #[.bool false,.int .u8 0,.int .u32 0,.int .u16 0,.string (⟨#[]⟩ : ByteArray)] 62 (0,0)) (by (with_reducible repeat first|apply zN|apply zD|apply zA);exact z05.out) hb);have n2_:=zM (zB (g:=z0b) (o:=.cells #[.int .u8 z0j,.int .u8 z0k,.int .u8 z0l,.int .u8 z09,.int .u8 z0n] 84 (0,0)) (by (with_reducible repeat first|apply zN|apply zD|apply zA);exact z04.out) hb);have n3_:=zM (yT (by repeat (first|(with_reducible first|exact HB.out|apply yA|apply yN|apply yD|refine yS ?_ z0d.out|refine yS ?_ z0f.out)|exact HB.out)) hb);clear z05;clear z04;clear HB;have z0m:=n0_;have z05:=n1_;have z04:=n2_;have HB:=n3_;clear n0_ n1_ n2_ n3_;clear hb ho20;obtain ⟨Ao21,co21,eo21⟩:=Kd.R_slice z0m.out;subst eo21)|((with_reducible refine gate_callee (f:=45) rfl ?_);refine goesL_ (some 31) rfl rfl Try.func45 (by kernel_rfl) rfl #[.string z1c,.slice Ao21 y253.length co21] rfl (by (try simp only [List.map_toArray,List.map_cons,List.map_nil]);first|done|rfl|(simp only [List.length_drop,List.length_take];rfl)) ?_;(with_reducible refine (field_Split.calls kj3 z1c _ _ y253 z0a z0o z1e _ ?side1 ?side2 A16.out).mono ?_);(case side1 => repeat (first|exact (Kd.R_reads' z0m.out).2.2|(with_reducible refine Kd.C_alloc ?_ _)|(with_reducible refine Kd.C_drewN ?_ _)|(with_reducible refine Kd.C_drew ?_)));(case side2 => exact (Kd.R_reads' z0m.out).2.1);rintro e w22 ⟨v259,rfl,ho0,hb⟩;refine ⟨_,rfl,?_⟩;have n0_:=zM (Kd.R_below (by (with_reducible repeat (first|apply Kd.R_alloc|apply Kd.R_drewN|apply Kd.R_drew));exact z0m.out) hb);have n1_:=zM (Kd.R_lower ho0 (yZ (by repeat (first|(with_reducible first|exact HB.out|apply yA|apply yN|apply yD|refine yS ?_ z0d.out|refine yS ?_ z0f.out)|exact HB.out))));have n2_:=zM (zB (g:=z0c) (o:=.cells #[.bool false,.int .u8 0,.int .u32 0,.int .u16 0,.string (⟨#[]⟩ : ByteArray)] 62 (0,0)) (by (with_reducible repeat first|apply zN|apply zD|apply zA);exact z05.out) hb);have n3_:=zM (zB (g:=z0b) (o:=.cells #[.int .u8 z0j,.int .u8 z0k,.int .u8 z0l,.int .u8 z09,.int .u8 z0n] 84 (0,0)) (by (with_reducible repeat first|apply zN|apply zD|apply zA);exact z04.out) hb);have n4_:=zM (yT (by repeat (first|(with_reducible first|exact HB.out|apply yA|apply yN|apply yD|refine yS ?_ z0d.out|refine yS ?_ z0f.out)|exact HB.out)) hb);clear z0m;clear z05;clear z04;clear HB;have z0m:=n0_;have z0p:=n1_;have z05:=n2_;have z04:=n3_;have HB:=n4_;clear n0_ n1_ n2_ n3_ n4_;(try clear hb);(try clear hb2);(try clear hk);(try clear hi);(try clear ho0)))
     (try simp only [Act.put,sA,sB,sC])
     go_cut [40] (fun v40 wc => ∃ (kq : Nat) (x40_17 : Bool),v40 = .bool x40_17 ∧ Aside0 (ccm_Open.j1 kq z0a z0o x40_17 z0j z0k z0l z09 z0n = some (r1,r2,r3,r4,r5,r6)) ∧ Aside0 (kq ≤ kj3) ∧ Aside0 (Kd.R (Kd.int .u64) 33 wc w.heap.size (fun _ => True) v259 z0a) ∧ Aside0 (wc.heap[z0c]? = some (.cells #[.bool false,.int .u8 0,.int .u32 0,.int .u16 0,.string (⟨#[]⟩ : ByteArray)] 62 (0,0))) ∧ Aside0 (wc.heap[z0b]? = some (.cells #[.int .u8 z0j,.int .u8 z0k,.int .u8 z0l,.int .u8 z09,.int .u8 z0n] 84 (0,0))) ∧ Aside0 (Below w.heap.size w wc))
     case first =>
      have H:=z21.out;clear z21;by_cases c23 : 1 < (z0a.length : Int)
      ·
       rw [if_pos c23] at H;have c23b0 : decide (1 < (z0a.length : Int)) = true:=dT c23;have c23b1 : decide (1 < z0a.length) = true:=dT (by omega);clear c23;(first|rw [c23b0]|(simp only [i64_w,i32_w];rw [c23b0])|skip)
       by_cases c24 : (rd z0a 1) = 0
       ·
        rw [if_pos c24] at H;have c24b0 : ((rd z0a 1) == 0) = true:=beq_iff_eq.mpr c24;have c24b1 : ((rd z0a 1) != 0) = false:=bne_eq_false_iff_eq.mpr c24;clear c24;by_cases c25 : (Go.bits .and .u8 z09 120) = 0
        ·
         rw [if_pos c25] at H;have c25b0 : ((Go.bits .and .u8 z09 120) == 0) = true:=beq_iff_eq.mpr c25;have c25b1 : ((Go.bits .and .u8 z09 120) != 0) = false:=bne_eq_false_iff_eq.mpr c25;clear c25;by_cases c26 : 48 ≤ (z0o.size : Int)
         ·
          rw [if_pos c26] at H;have c26b0:=eq_true c26;have c26b1 : decide (48 ≤ (z0o.size : Int)) = true:=dT c26;clear c26;replace H:=Option.bind_eq_some_iff.mp H;obtain ⟨z20,A270,H⟩:=H;try dsimp only at H
          have A27:=zM A270;clear A270;have H':=zM H;clear H;obtain ⟨Ao28,co28,eo28⟩:=Kd.R_slice z0p.out;subst eo28;have p261 : 0 ≤ (1 : Int):=(by omega)
          have q261 : 1 < (z0a.length : Int):=of_decide_eq_true (by first|(with_reducible assumption)|assumption);obtain ⟨ad261,e261,z0g⟩:=Kd.at_int (Kd.R_reads' z0p.out).2.2 1 p261 q261;cases e261;(try simp only [show (1 : Int).toNat = 1 from rfl,Nat.reduceMul,Nat.reduceEqDiff,Go.Addr.add,↓reduceIte] at z0g)
          have qi261 : (1 < z0a.length) = True:=eq_true (by omega);(try rw [show ((1 : Int)).toNat = 1 from rfl] at z0g)
          replace p261:=eq_true p261;replace q261:=eq_true q261;have z4f:=z0e.out;have z4g:=z06.out;obtain ⟨z1f,z1g,z1h,z1i,z1j,z1k,z1l,z1m,z1n,z1o⟩:=kc5 z04.out;go_wp2_with (first|(go_at_call 46;(with_reducible refine (field_Noughts.calls kj3 (z0o.extract 48 z0o.size) z20 _ A27.out).mono ?_);rintro e w' ⟨rfl,⟨nd,rfl⟩⟩))
          go_meet
          case rel => exact ⟨_,(!z20),(by first|rfl|(simp;done)|(simp [*];done)),H',⟨by have:=HJ3.out;first|omega|exact Nat.le_refl _⟩,⟨by (with_reducible repeat (first|apply Kd.R_alloc|apply Kd.R_drewN|apply Kd.R_drew));exact z0p.out⟩,⟨by (with_reducible repeat first|apply zN|apply zD|apply zA);exact z05.out⟩,⟨by (with_reducible repeat first|apply zN|apply zD|apply zA);exact z04.out⟩,⟨by repeat (first|(with_reducible first|exact HB.out|apply yA|apply yN|apply yD|refine yS ?_ z0d.out|refine yS ?_ z0f.out)|exact HB.out)⟩⟩
         rw [if_neg c26] at H;exact absurd H (by simp)
        rw [if_neg c25] at H;have c25b0 : ((Go.bits .and .u8 z09 120) == 0) = false:=beq_eq_false_iff_ne.mpr c25;have c25b1 : ((Go.bits .and .u8 z09 120) != 0) = true:=bne_iff_ne.mpr c25;have H':=zM H;clear H;obtain ⟨Ao31,co31,eo31⟩:=Kd.R_slice z0p.out;subst eo31;have p261 : 0 ≤ (1 : Int):=(by omega)
        have q261 : 1 < (z0a.length : Int):=of_decide_eq_true (by first|(with_reducible assumption)|assumption);obtain ⟨ad261,e261,z0g⟩:=Kd.at_int (Kd.R_reads' z0p.out).2.2 1 p261 q261;cases e261;(try simp only [show (1 : Int).toNat = 1 from rfl,Nat.reduceMul,Nat.reduceEqDiff,Go.Addr.add,↓reduceIte] at z0g)
        have qi261 : (1 < z0a.length) = True:=eq_true (by omega);(try rw [show ((1 : Int)).toNat = 1 from rfl] at z0g)
        replace p261:=eq_true p261;replace q261:=eq_true q261;have z4h:=z0e.out;have z4i:=z06.out;obtain ⟨z1p,z1q,z1r,z1s,z1t,z1u,z1v,z1w,z1x,z1y⟩:=kc5 z04.out;go_wp2;go_meet
        case rel => exact ⟨_,(true),(by first|rfl|(simp;done)|(simp [*];done)),H',⟨by have:=HJ3.out;first|omega|exact Nat.le_refl _⟩,⟨by (with_reducible repeat (first|apply Kd.R_alloc|apply Kd.R_drewN|apply Kd.R_drew));exact z0p.out⟩,⟨by (with_reducible repeat first|apply zN|apply zD|apply zA);exact z05.out⟩,⟨by (with_reducible repeat first|apply zN|apply zD|apply zA);exact z04.out⟩,⟨by repeat (first|(with_reducible first|exact HB.out|apply yA|apply yN|apply yD|refine yS ?_ z0d.out|refine yS ?_ z0f.out)|exact HB.out)⟩⟩
       rw [if_neg c24] at H;have c24b0 : ((rd z0a 1) == 0) = false:=beq_eq_false_iff_ne.mpr c24;have c24b1 : ((rd z0a 1) != 0) = true:=bne_iff_ne.mpr c24;have H':=zM H;clear H;obtain ⟨Ao34,co34,eo34⟩:=Kd.R_slice z0p.out;subst eo34;have p261 : 0 ≤ (1 : Int):=(by omega)
       have q261 : 1 < (z0a.length : Int):=of_decide_eq_true (by first|(with_reducible assumption)|assumption);obtain ⟨ad261,e261,z0g⟩:=Kd.at_int (Kd.R_reads' z0p.out).2.2 1 p261 q261;cases e261;(try simp only [show (1 : Int).toNat = 1 from rfl,Nat.reduceMul,Nat.reduceEqDiff,Go.Addr.add,↓reduceIte] at z0g)
       have qi261 : (1 < z0a.length) = True:=eq_true (by omega);(try rw [show ((1 : Int)).toNat = 1 from rfl] at z0g)
       replace p261:=eq_true p261;replace q261:=eq_true q261;go_wp2;go_meet
       case rel => exact ⟨_,(true),(by first|rfl|(simp;done)|(simp [*];done)),H',⟨by have:=HJ3.out;first|omega|exact Nat.le_refl _⟩,⟨by (with_reducible repeat (first|apply Kd.R_alloc|apply Kd.R_drewN|apply Kd.R_drew));exact z0p.out⟩,⟨by (with_reducible repeat first|apply zN|apply zD|apply zA);exact z05.out⟩,⟨by (with_reducible repeat first|apply zN|apply zD|apply zA);exact z04.out⟩,⟨by repeat (first|(with_reducible first|exact HB.out|apply yA|apply yN|apply yD|refine yS ?_ z0d.out|refine yS ?_ z0f.out)|exact HB.out)⟩⟩
      rw [if_neg c23] at H;exact absurd H (by simp)
     case rest =>
      clear z21;try clear c1
      try clear c2
      try clear p2
      try clear q2
      try clear hx2
      try clear qi2
      try clear c3
      try clear c4
      try clear c8
      try clear c10
      try clear c10b0
      try clear c10b1
      try clear c12
      try clear c15
      try clear c15b0
      try clear c15b1
      try clear c17
      try clear c17b0
      try clear c17b1
      try clear c23
      try clear c23b0
      try clear c23b1
      try clear c24
      try clear c24b0
      try clear c24b1
      try clear c25
      try clear c25b0
      try clear c25b1
      try clear c26
      try clear c26b0
      try clear c26b1
      try clear p26
      try clear q26
      try clear z53
      try clear qi26
      try clear c29
      try clear c32
      try clear z0q
      try clear z0r
      try clear z0s
      try clear z0t
      try clear z0u
      try clear z1f
      try clear z1g
      try clear z1h
      try clear z1i
      try clear z1j
      try clear z1p
      try clear z1q
      try clear z1r
      try clear z1s
      try clear z1t
      try clear z12
      try clear z13
      try clear z14
      try clear z15
      try clear z16
      try clear z0v
      try clear z0w
      try clear z0x
      try clear z0y
      try clear z0z
      try clear z1k
      try clear z1l
      try clear z1m
      try clear z1n
      try clear z1o
      try clear z1u
      try clear z1v
      try clear z1w
      try clear z1x
      try clear z1y
      try clear z17
      try clear z18
      try clear z19
      try clear z1a
      try clear z1b
      try clear z0g
      try clear p2
      try clear p261
      try clear q261
      obtain ⟨kq,x40_17,rfl,HA,HJ17,HO_9,z05,z04,HB⟩:=hcut;cases kq with
     | zero => exact absurd HA.out (by simp [ccm_Open.j1])
     | succ kj17 =>
       have H:=HA.out;clear HA;simp only [ccm_Open.j1] at H;by_cases c35 : x40_17 = true
       ·
        subst c35;have H1 : (some (false,0,0,0,(⟨#[]⟩ : ByteArray),3)) = some (r1,r2,r3,r4,r5,r6):=by rw [if_pos rfl] at H;exact H
        clear H;have H:=H1;clear H1;simp only [Option.some.injEq,Prod.mk.injEq] at H;obtain ⟨rfl,rfl,rfl,rfl,rfl,rfl⟩:=H;have z4j:=z06.out;have z4k:=z0e.out;obtain ⟨z22,z23,z24,z25,z26,z27,z28,z29,z2a,z2b⟩:=kc5 z05.out;go_wp2;refine zE (results_ct rfl _ _ z0c 62 #[.bool false,.int .u8 0,.int .u32 0,.int .u16 0,.string (⟨#[]⟩ : ByteArray)] (0,0) _ rfl (by (with_reducible repeat first|apply zN|apply zD|apply zA);refine zP (cs:=#[.bool false,.int .u8 0,.int .u32 0,.int .u16 0,.string (⟨#[]⟩ : ByteArray)]) ?_ 4 _ rfl;(with_reducible repeat first|apply zN|apply zD|apply zA);refine zP (cs:=#[.bool false,.int .u8 0,.int .u32 0,.int .u16 0,.string (⟨#[]⟩ : ByteArray)]) ?_ 3 _ rfl;(with_reducible repeat first|apply zN|apply zD|apply zA);refine zP (cs:=#[.bool false,.int .u8 0,.int .u32 0,.int .u16 0,.string (⟨#[]⟩ : ByteArray)]) ?_ 2 _ rfl;(with_reducible repeat first|apply zN|apply zD|apply zA);refine zP (cs:=#[.bool false,.int .u8 0,.int .u32 0,.int .u16 0,.string (⟨#[]⟩ : ByteArray)]) ?_ 1 _ rfl;(with_reducible repeat first|apply zN|apply zD|apply zA);refine zP (cs:=#[.bool false,.int .u8 0,.int .u32 0,.int .u16 0,.string (⟨#[]⟩ : ByteArray)]) ?_ 0 _ rfl;(with_reducible repeat first|apply zN|apply zD|apply zA);exact z05.out) Try.underlying62 rfl (by kernel_rfl)) rfl ?_;exact ⟨by first|rfl|(simp [errW_none,errW_some] <;> rfl)|(simp [*,errW_none,errW_some] <;> rfl),by repeat (first|(with_reducible first|exact HB.out|apply yA|apply yN|apply yD|refine yS ?_ z0d.out|refine yS ?_ z0f.out)|exact HB.out)⟩
       replace c35:=Bool.eq_false_iff.mpr c35;subst c35;have H1 : (if 0 < (z0a.length : Int) then (if 2 < (z0a.length : Int) then (if 0 ≤ 48 then (if 48 ≤ (z0o.size : Int) then ((ccm_Msg_wrong.f kj17 ((Go.bits .and .u8 z09 128) != 0) (Go.bits .and .u8 z09 7) ((rd z0a 0) % 4294967296) (IntKind.u16.wrap (rd z0a 2)) (z0o.extract 0 48)).bind fun z11 => (if z11 = 0 then (some (((Go.bits .and .u8 z09 128) != 0),Go.bits .and .u8 z09 7,(rd z0a 0) % 4294967296,IntKind.u16.wrap (rd z0a 2),z0o.extract 0 48,0)) else (some (false,0,0,0,(⟨#[]⟩ : ByteArray),z11)))) else (none)) else (none)) else (none)) else (none)) = some (r1,r2,r3,r4,r5,r6):=by rw [if_neg (show ¬ (false = true) by decide)] at H;exact H
       clear H;have H:=H1;clear H1;by_cases c38 : 0 < (z0a.length : Int)
       ·
        rw [if_pos c38] at H;have c38b0 : decide (0 < (z0a.length : Int)) = true:=dT c38;have c38b1 : decide (0 < z0a.length) = true:=dT (by omega);clear c38;by_cases c39 : 2 < (z0a.length : Int)
        ·
         rw [if_pos c39] at H;have c39b0 : decide (2 < (z0a.length : Int)) = true:=dT c39;have c39b1 : decide (2 < z0a.length) = true:=dT (by omega);clear c39;by_cases c40 : 0 ≤ 48
         ·
          rw [if_pos c40] at H;have c40b0:=eq_true c40;have c40b1 : decide (0 ≤ 48) = true:=dT c40;clear c40;by_cases c41 : 48 ≤ (z0o.size : Int)
          ·
           rw [if_pos c41] at H;have c41b0:=eq_true c41;have c41b1 : decide (48 ≤ (z0o.size : Int)) = true:=dT c41;clear c41;replace H:=Option.bind_eq_some_iff.mp H;obtain ⟨z11,A420,H⟩:=H;try dsimp only at H
           have A42:=zM A420;clear A420;by_cases c43 : z11 = 0
           ·
            rw [if_pos c43] at H;have c43b0 : (z11 == 0) = true:=beq_iff_eq.mpr c43;have c43b1 : (z11 != 0) = false:=bne_eq_false_iff_eq.mpr c43;clear c43;simp only [Option.some.injEq,Prod.mk.injEq] at H;obtain ⟨rfl,rfl,rfl,rfl,rfl,rfl⟩:=H;try go_wp2
            have n0_:=zM (Kd.R_drew HO_9.out);have n1_:=zM (zD z05.out);have n2_:=zM (zD z04.out);have n3_:=zM (yD HB.out);clear HO_9;clear z05;clear z04;clear HB;have HO_9:=n0_;have z05:=n1_;have z04:=n2_;have HB:=n3_;clear n0_ n1_ n2_ n3_;obtain ⟨Ao45,co45,eo45⟩:=Kd.R_slice HO_9.out;(first|subst eo45|(injection eo45 with f1_ f2_ f3_;have f4_:=f1_.symm;have f5_:=f3_.symm;clear f1_ f2_ f3_;subst f4_;subst f5_))
            have p263 : 0 ≤ (0 : Int):=(by omega)
            have q263 : 0 < (z0a.length : Int):=of_decide_eq_true (by first|(with_reducible assumption)|assumption);obtain ⟨ad263,e263,z0h⟩:=Kd.at_int (Kd.R_reads' HO_9.out).2.2 0 p263 q263;cases e263;have qi263 : (0 < z0a.length) = True:=eq_true (by omega);(try rw [show ((0 : Int)).toNat = 0 from rfl] at z0h)
            (try rw [Addr.add_zero'] at z0h)
            replace p263:=eq_true p263;replace q263:=eq_true q263;have p264 : 0 ≤ (2 : Int):=(by omega)
            have q264 : 2 < (z0a.length : Int):=of_decide_eq_true (by first|(with_reducible assumption)|assumption);obtain ⟨ad264,e264,z0i⟩:=Kd.at_int (Kd.R_reads' HO_9.out).2.2 2 p264 q264;obtain rfl : ad263 = ad264:=(by injection e264)
            (try simp only [show (2 : Int).toNat = 2 from rfl,Nat.reduceMul,Nat.reduceEqDiff,Go.Addr.add,↓reduceIte] at z0i)
            have qi264 : (2 < z0a.length) = True:=eq_true (by omega);(try rw [show ((2 : Int)).toNat = 2 from rfl] at z0i)
            replace p264:=eq_true p264;replace q264:=eq_true q264;refine start_ (n:=20) (S:=fun w' => w'.cell? ⟨z0b,0,none⟩ = some (.int .u8 z0j) ∧ w'.cell? ⟨z0b,1,none⟩ = some (.int .u8 z0k) ∧ w'.cell? ⟨z0b,2,none⟩ = some (.int .u8 z0l) ∧ w'.cell? ⟨z0b,3,none⟩ = some (.int .u8 z09) ∧ w'.cell? ⟨z0b,4,none⟩ = some (.int .u8 z0n) ∧ w'.cell? ad263 = some (.int .u64 (rd z0a 0)) ∧ w'.cell? ⟨ad263.block,ad263.off + 2,none⟩ = some (.int .u64 (rd z0a 2))) (ds:=[]) #[false,false,false,false,false,false,false,false,false,false,false,false,false,false,false,false,false,false,false,false] (by kernel_rfl) rfl rfl ⟨(zC z04.out 0).trans rfl,(zC z04.out 1).trans rfl,(zC z04.out 2).trans rfl,(zC z04.out 3).trans rfl,(zC z04.out 4).trans rfl,z0h,z0i⟩ (fun hHeld => ?_);refine with_tabW ccm_Open.tab11 ccm_Open.bits11 (fun HT_ HW_ => ?_);generalize wc.drew = w44 at HO_9 z05 z04 HB z0h z0i hHeld ⊢
            refine pure_ (i:=0) (N:=some 58) (v:=?_) (a':=?_) #[true,false,false,false,false,false,false,false,false,false,false,false,false,false,false,false,false,false,false,false] rfl rfl (any_of HT_.out (by kernel_rfl)) (fun _ _ _ h => h) (Or.inl ⟨by rfl,?_⟩) ?_ ?_;rotate_left
            ·
             intro w';go_simp;with_reducible rfl
            rotate_left
            ·
             simp only [Act.put,sA,sB,sC,i64_w,i32_w];rfl
            refine pure_ (i:=4) (N:=some 62) (v:=?_) (a':=?_) #[true,false,false,false,true,false,false,false,false,false,false,false,false,false,false,false,false,false,false,false] rfl rfl (any_of HT_.out (by kernel_rfl)) (fun _ _ _ h => h) (Or.inl ⟨by rfl,?_⟩) ?_ ?_;rotate_left
            ·
             intro w';go_simp;with_reducible rfl
            rotate_left
            ·
             simp only [Act.put,sA,sB,sC,i64_w,i32_w];rfl
            refine pure_ (i:=7) (N:=some 65) (v:=?_) (a':=?_) #[true,false,false,false,true,false,false,true,false,false,false,false,false,false,false,false,false,false,false,false] rfl rfl (any_of HT_.out (by kernel_rfl)) (fun _ _ _ h => h) (Or.inl ⟨by rfl,?_⟩) ?_ ?_;rotate_left
            ·
             intro w';go_simp;with_reducible rfl
            rotate_left
            ·
             simp only [Act.put,sA,sB,sC,i64_w,i32_w];rfl
            refine pure_ (i:=8) (N:=some 66) (v:=?_) (a':=?_) #[true,false,false,false,true,false,false,true,true,false,false,false,false,false,false,false,false,false,false,false] rfl rfl (any_of HT_.out (by kernel_rfl)) (fun _ _ _ h => h) (Or.inl ⟨by rfl,?_⟩) ?_ ?_;rotate_left
            ·
             intro w';go_simp;with_reducible rfl
            rotate_left
            ·
             simp only [Act.put,sA,sB,sC,i64_w,i32_w];rfl
            refine pure_ (i:=11) (N:=some 69) (v:=?_) (a':=?_) #[true,false,false,false,true,false,false,true,true,false,false,true,false,false,false,false,false,false,false,false] rfl rfl (any_of HT_.out (by kernel_rfl)) (fun _ _ _ h => h) (Or.inl ⟨by rfl,?_⟩) ?_ ?_;rotate_left
            ·
             intro w';go_simp;with_reducible rfl
            rotate_left
            ·
             simp only [Act.put,sA,sB,sC,i64_w,i32_w];rfl
            refine pure_ (i:=12) (N:=some 70) (v:=?_) (a':=?_) #[true,false,false,false,true,false,false,true,true,false,false,true,true,false,false,false,false,false,false,false] rfl rfl (any_of HT_.out (by kernel_rfl)) (fun _ _ _ h => h) (Or.inl ⟨by rfl,?_⟩) ?_ ?_;rotate_left
            ·
             intro w';go_simp;with_reducible rfl
            rotate_left
            ·
             simp only [Act.put,sA,sB,sC,i64_w,i32_w];rfl
            refine pure_ (i:=15) (N:=some 73) (v:=?_) (a':=?_) #[true,false,false,false,true,false,false,true,true,false,false,true,true,false,false,true,false,false,false,false] rfl rfl (any_of HT_.out (by kernel_rfl)) (fun _ _ _ h => h) (Or.inl ⟨by rfl,?_⟩) ?_ ?_;rotate_left
            ·
             intro w';go_simp;with_reducible rfl
            rotate_left
            ·
             simp only [Act.put,sA,sB,sC,i64_w,i32_w];rfl
            refine pure_ (i:=16) (N:=some 74) (v:=?_) (a':=?_) #[true,false,false,false,true,false,false,true,true,false,false,true,true,false,false,true,true,false,false,false] rfl rfl (any_of HT_.out (by kernel_rfl)) (fun _ _ _ h => h) (Or.inl ⟨by rfl,?_⟩) ?_ ?_;rotate_left
            ·
             intro w';go_simp;with_reducible rfl
            rotate_left
            ·
             simp only [Act.put,sA,sB,sC,i64_w,i32_w];rfl
            refine take_ (i:=1) (N:=some 59) (v:=?_) (a':=?_) #[true,true,false,false,true,false,false,true,true,false,false,true,true,false,false,true,true,false,false,false] rfl rfl (take_ofW HT_.out HW_.out (by kernel_rfl)) (fun _ _ _ h => h) (Or.inl ⟨by rfl,?_⟩) hHeld ?_ ?_;rotate_left
            ·
             rintro w' ⟨s0,s1,s2,s3,s4,s5,s6⟩
             go_simp;with_reducible rfl
            rotate_left
            ·
             simp only [Act.put,sA,sB,sC,i64_w,i32_w];rfl
            refine pure_ (i:=2) (N:=some 60) (v:=?_) (a':=?_) #[true,true,true,false,true,false,false,true,true,false,false,true,true,false,false,true,true,false,false,false] rfl rfl (any_of HT_.out (by kernel_rfl)) (fun _ _ _ h => h) (Or.inl ⟨by rfl,?_⟩) ?_ ?_;rotate_left
            ·
             intro w';go_simp;with_reducible rfl
            rotate_left
            ·
             simp only [Act.put,sA,sB,sC,i64_w,i32_w];rfl
            refine pure_ (i:=3) (N:=some 61) (v:=?_) (a':=?_) #[true,true,true,true,true,false,false,true,true,false,false,true,true,false,false,true,true,false,false,false] rfl rfl (any_of HT_.out (by kernel_rfl)) (fun _ _ _ h => h) (Or.inl ⟨by rfl,?_⟩) ?_ ?_;rotate_left
            ·
             intro w';go_simp;with_reducible rfl
            rotate_left
            ·
             simp only [Act.put,sA,sB,sC,i64_w,i32_w];rfl
            refine take_ (i:=5) (N:=some 63) (v:=?_) (a':=?_) #[true,true,true,true,true,true,false,true,true,false,false,true,true,false,false,true,true,false,false,false] rfl rfl (take_ofW HT_.out HW_.out (by kernel_rfl)) (fun _ _ _ h => h) (Or.inl ⟨by rfl,?_⟩) hHeld ?_ ?_;rotate_left
            ·
             rintro w' ⟨s0,s1,s2,s3,s4,s5,s6⟩
             go_simp;with_reducible rfl
            rotate_left
            ·
             simp only [Act.put,sA,sB,sC,i64_w,i32_w];rfl
            refine pure_ (i:=6) (N:=some 64) (v:=?_) (a':=?_) #[true,true,true,true,true,true,true,true,true,false,false,true,true,false,false,true,true,false,false,false] rfl rfl (any_of HT_.out (by kernel_rfl)) (fun _ _ _ h => h) (Or.inl ⟨by rfl,?_⟩) ?_ ?_;rotate_left
            ·
             intro w';go_simp;with_reducible rfl
            rotate_left
            ·
             simp only [Act.put,sA,sB,sC,i64_w,i32_w];rfl
            refine take_ (i:=9) (N:=some 67) (v:=?_) (a':=?_) #[true,true,true,true,true,true,true,true,true,true,false,true,true,false,false,true,true,false,false,false] rfl rfl (take_ofW HT_.out HW_.out (by kernel_rfl)) (fun _ _ _ h => h) (Or.inl ⟨by rfl,?_⟩) hHeld ?_ ?_;rotate_left
            ·
             rintro w' ⟨s0,s1,s2,s3,s4,s5,s6⟩
             go_simp;with_reducible rfl
            rotate_left
            ·
             simp only [Act.put,sA,sB,sC,i64_w,i32_w];rfl
            refine pure_ (i:=10) (N:=some 68) (v:=?_) (a':=?_) #[true,true,true,true,true,true,true,true,true,true,true,true,true,false,false,true,true,false,false,false] rfl rfl (any_of HT_.out (by kernel_rfl)) (fun _ _ _ h => h) (Or.inl ⟨by rfl,?_⟩) ?_ ?_;rotate_left
            ·
             intro w';go_simp;with_reducible rfl
            rotate_left
            ·
             simp only [Act.put,sA,sB,sC,i64_w,i32_w];rfl
            refine take_ (i:=13) (N:=some 71) (v:=?_) (a':=?_) #[true,true,true,true,true,true,true,true,true,true,true,true,true,true,false,true,true,false,false,false] rfl rfl (take_ofW HT_.out HW_.out (by kernel_rfl)) (fun _ _ _ h => h) (Or.inl ⟨by rfl,?_⟩) hHeld ?_ ?_;rotate_left
            ·
             rintro w' ⟨s0,s1,s2,s3,s4,s5,s6⟩
             go_simp;with_reducible rfl
            rotate_left
            ·
             simp only [Act.put,sA,sB,sC,i64_w,i32_w];rfl
            refine pure_ (i:=14) (N:=some 72) (v:=?_) (a':=?_) #[true,true,true,true,true,true,true,true,true,true,true,true,true,true,true,true,true,false,false,false] rfl rfl (any_of HT_.out (by kernel_rfl)) (fun _ _ _ h => h) (Or.inl ⟨by rfl,?_⟩) ?_ ?_;rotate_left
            ·
             intro w';go_simp;with_reducible rfl
            rotate_left
            ·
             simp only [Act.put,sA,sB,sC,i64_w,i32_w];rfl
            refine pure_ (i:=17) (N:=some 75) (v:=?_) (a':=?_) #[true,true,true,true,true,true,true,true,true,true,true,true,true,true,true,true,true,true,false,false] rfl rfl (any_of HT_.out (by kernel_rfl)) (fun _ _ _ h => h) (Or.inl ⟨by rfl,?_⟩) ?_ ?_;rotate_left
            ·
             intro w';go_simp;with_reducible rfl
            rotate_left
            ·
             simp only [Act.put,sA,sB,sC,i64_w,i32_w];rfl
            refine one_ (i:=18) (N:=some 11) #[true,true,true,true,true,true,true,true,true,true,true,true,true,true,true,true,true,true,true,false] rfl rfl (one_of HT_.out (by kernel_rfl)) (by decide) (fun K hK => ?_);refine box_step ?hg (N:=11) ?hd (cs:=#[.bool false,.int .u8 0,.int .u32 0,.int .u16 0,.string (⟨#[]⟩ : ByteArray)]) (t:=62) ?hr ?_;(case hd => rfl);(case hg => rfl);(case hr => first|(go_simp;done)|(go_simp;rfl));intro z02 hg w46 hbox hb;have HS5_:=(hb.cell (World.block_lt_of_cell? _ _ (hHeld.2.2.2.2.2.1))).trans (hHeld.2.2.2.2.2.1);have HS6_:=(hb.cell (World.block_lt_of_cell? _ _ (hHeld.2.2.2.2.2.2))).trans (hHeld.2.2.2.2.2.2);have n0_:=zM (Kd.R_below (by (with_reducible repeat (first|apply Kd.R_alloc|apply Kd.R_drewN|apply Kd.R_drew));exact HO_9.out) hb);have n1_:=zM (zB (g:=z0c) (o:=.cells #[.bool false,.int .u8 0,.int .u32 0,.int .u16 0,.string (⟨#[]⟩ : ByteArray)] 62 (0,0)) (by (with_reducible repeat first|apply zN|apply zD|apply zA);exact z05.out) hb);have n2_:=zM (zB (g:=z0b) (o:=.cells #[.int .u8 z0j,.int .u8 z0k,.int .u8 z0l,.int .u8 z09,.int .u8 z0n] 84 (0,0)) (by (with_reducible repeat first|apply zN|apply zD|apply zA);exact z04.out) hb);have n3_:=zM (yT (by repeat (first|(with_reducible first|exact HB.out|apply yA|apply yN|apply yD|refine yS ?_ z0d.out|refine yS ?_ z0f.out)|exact HB.out)) hb);have n4_:=zM (hbox);have n5_:=zM ((by rw [hg];exact (yZ (by repeat (first|(with_reducible first|exact HB.out|apply yA|apply yN|apply yD|refine yS ?_ z0d.out|refine yS ?_ z0f.out)|exact HB.out))) : w.heap.size ≤ z02));have n6_:=zM ((by rw [hg];exact (yZ (by repeat (first|(with_reducible first|exact HB.out|apply yA|apply yN|apply yD|refine yS ?_ z0d.out|refine yS ?_ z0f.out)|exact HB.out))) : w.heap.size ≤ z02));have n7_:=zM ((by rw [hg];exact Nat.ne_of_lt (blk_lt (g:=z0c) (o:=.cells #[.bool false,.int .u8 0,.int .u32 0,.int .u16 0,.string (⟨#[]⟩ : ByteArray)] 62 (0,0)) (by (with_reducible repeat first|apply zN|apply zD|apply zA);exact z05.out)) : z0c ≠ z02));have n8_:=zM ((by rw [hg];exact Nat.ne_of_gt (blk_lt (g:=z0c) (o:=.cells #[.bool false,.int .u8 0,.int .u32 0,.int .u16 0,.string (⟨#[]⟩ : ByteArray)] 62 (0,0)) (by (with_reducible repeat first|apply zN|apply zD|apply zA);exact z05.out)) : z02 ≠ z0c));have n9_:=zM ((by rw [hg];exact Nat.ne_of_lt (blk_lt (g:=z0b) (o:=.cells #[.int .u8 z0j,.int .u8 z0k,.int .u8 z0l,.int .u8 z09,.int .u8 z0n] 84 (0,0)) (by (with_reducible repeat first|apply zN|apply zD|apply zA);exact z04.out)) : z0b ≠ z02));have n10_:=zM ((by rw [hg];exact Nat.ne_of_gt (blk_lt (g:=z0b) (o:=.cells #[.int .u8 z0j,.int .u8 z0k,.int .u8 z0l,.int .u8 z09,.int .u8 z0n] 84 (0,0)) (by (with_reducible repeat first|apply zN|apply zD|apply zA);exact z04.out)) : z02 ≠ z0b));clear HO_9;clear z05;clear z04;clear HB;have HO_9:=n0_;have z05:=n1_;have z04:=n2_;have HB:=n3_;have z01:=n4_;have z2c:=n5_;have z10:=n6_;have z03:=n7_;have z07:=n8_;have z00:=n9_;have z08:=n10_;clear n0_ n1_ n2_ n3_ n4_ n5_ n6_ n7_ n8_ n9_ n10_;clear hb hbox hg;refine hK.out _ _ ⟨(zC z04.out 0).trans rfl,(zC z04.out 1).trans rfl,(zC z04.out 2).trans rfl,(zC z04.out 3).trans rfl,(zC z04.out 4).trans rfl,HS5_,HS6_⟩ (fun hHeld => ?_);clear hK K;refine norm_ (a':=?_) ?_ ?_;rotate_left
            ·
             show Act.put _ (some 11) _ = _
             simp only [Act.put,sA,sB,sC,i64_w,i32_w];rfl
            refine one_ (i:=19) (N:=none) #[true,true,true,true,true,true,true,true,true,true,true,true,true,true,true,true,true,true,true,true] rfl rfl (one_of HT_.out (by kernel_rfl)) (by decide) (fun K hK => ?_);have hs47 : w46.cell? ⟨z02,0,none⟩ = some (.bool false):=(zC z01.out 0).trans rfl;have hfs47:=zF z01.out 0;have hns47_0:=z03.out;have hns47_1:=z00.out;have hms47_0:=z07.out;have hms47_1:=z08.out;have hs48 : w46.cell? ⟨z02,1,none⟩ = some (.int .u8 0):=(zC z01.out 1).trans rfl;have hfs48:=zF z01.out 1;have hns48_0:=z03.out;have hns48_1:=z00.out;have hms48_0:=z07.out;have hms48_1:=z08.out;have hs49 : w46.cell? ⟨z02,2,none⟩ = some (.int .u32 0):=(zC z01.out 2).trans rfl;have hfs49:=zF z01.out 2;have hns49_0:=z03.out;have hns49_1:=z00.out;have hms49_0:=z07.out;have hms49_1:=z08.out;have hs50 : w46.cell? ⟨z02,3,none⟩ = some (.int .u16 0):=(zC z01.out 3).trans rfl;have hfs50:=zF z01.out 3;have hns50_0:=z03.out;have hns50_1:=z00.out;have hms50_0:=z07.out;have hms50_1:=z08.out;have hs51 : w46.cell? ⟨z02,4,none⟩ = some (.string (⟨#[]⟩ : ByteArray)):=(zC z01.out 4).trans rfl;have hfs51:=zF z01.out 4;have hns51_0:=z03.out;have hns51_1:=z00.out;have hms51_0:=z07.out;have hms51_1:=z08.out;refine skip_ (w1:=?_) (by rfl) rfl ?_ ?_;rotate_left
            ·
             go_simp;rfl
            refine hK.out _ _ ⟨((cell_far (p:=⟨z02,_,none⟩) z00.out _).trans (((cell_far (p:=⟨z02,_,none⟩) z00.out _).trans (((cell_far (p:=⟨z02,_,none⟩) z00.out _).trans (((cell_far (p:=⟨z02,_,none⟩) z00.out _).trans (((cell_far (p:=⟨z02,_,none⟩) z00.out _).trans (hHeld.1)))))))))),((cell_far (p:=⟨z02,_,none⟩) z00.out _).trans (((cell_far (p:=⟨z02,_,none⟩) z00.out _).trans (((cell_far (p:=⟨z02,_,none⟩) z00.out _).trans (((cell_far (p:=⟨z02,_,none⟩) z00.out _).trans (((cell_far (p:=⟨z02,_,none⟩) z00.out _).trans (hHeld.2.1)))))))))),((cell_far (p:=⟨z02,_,none⟩) z00.out _).trans (((cell_far (p:=⟨z02,_,none⟩) z00.out _).trans (((cell_far (p:=⟨z02,_,none⟩) z00.out _).trans (((cell_far (p:=⟨z02,_,none⟩) z00.out _).trans (((cell_far (p:=⟨z02,_,none⟩) z00.out _).trans (hHeld.2.2.1)))))))))),((cell_far (p:=⟨z02,_,none⟩) z00.out _).trans (((cell_far (p:=⟨z02,_,none⟩) z00.out _).trans (((cell_far (p:=⟨z02,_,none⟩) z00.out _).trans (((cell_far (p:=⟨z02,_,none⟩) z00.out _).trans (((cell_far (p:=⟨z02,_,none⟩) z00.out _).trans (hHeld.2.2.2.1)))))))))),((cell_far (p:=⟨z02,_,none⟩) z00.out _).trans (((cell_far (p:=⟨z02,_,none⟩) z00.out _).trans (((cell_far (p:=⟨z02,_,none⟩) z00.out _).trans (((cell_far (p:=⟨z02,_,none⟩) z00.out _).trans (((cell_far (p:=⟨z02,_,none⟩) z00.out _).trans (hHeld.2.2.2.2.1)))))))))),((cell_far (p:=⟨z02,_,none⟩) (by first|exact Kd.own_blk (Kd.R_ne HO_9.out z01.out (by decide))|(rw [add_block];exact Kd.own_blk (Kd.R_ne HO_9.out z01.out (by decide)))|(show (Addr.add _ _).block ≠ _;rw [add_block];exact Kd.own_blk (Kd.R_ne HO_9.out z01.out (by decide)))|(dsimp only;exact Kd.own_blk (Kd.R_ne HO_9.out z01.out (by decide)))) _).trans (((cell_far (p:=⟨z02,_,none⟩) (by first|exact Kd.own_blk (Kd.R_ne HO_9.out z01.out (by decide))|(rw [add_block];exact Kd.own_blk (Kd.R_ne HO_9.out z01.out (by decide)))|(show (Addr.add _ _).block ≠ _;rw [add_block];exact Kd.own_blk (Kd.R_ne HO_9.out z01.out (by decide)))|(dsimp only;exact Kd.own_blk (Kd.R_ne HO_9.out z01.out (by decide)))) _).trans (((cell_far (p:=⟨z02,_,none⟩) (by first|exact Kd.own_blk (Kd.R_ne HO_9.out z01.out (by decide))|(rw [add_block];exact Kd.own_blk (Kd.R_ne HO_9.out z01.out (by decide)))|(show (Addr.add _ _).block ≠ _;rw [add_block];exact Kd.own_blk (Kd.R_ne HO_9.out z01.out (by decide)))|(dsimp only;exact Kd.own_blk (Kd.R_ne HO_9.out z01.out (by decide)))) _).trans (((cell_far (p:=⟨z02,_,none⟩) (by first|exact Kd.own_blk (Kd.R_ne HO_9.out z01.out (by decide))|(rw [add_block];exact Kd.own_blk (Kd.R_ne HO_9.out z01.out (by decide)))|(show (Addr.add _ _).block ≠ _;rw [add_block];exact Kd.own_blk (Kd.R_ne HO_9.out z01.out (by decide)))|(dsimp only;exact Kd.own_blk (Kd.R_ne HO_9.out z01.out (by decide)))) _).trans (((cell_far (p:=⟨z02,_,none⟩) (by first|exact Kd.own_blk (Kd.R_ne HO_9.out z01.out (by decide))|(rw [add_block];exact Kd.own_blk (Kd.R_ne HO_9.out z01.out (by decide)))|(show (Addr.add _ _).block ≠ _;rw [add_block];exact Kd.own_blk (Kd.R_ne HO_9.out z01.out (by decide)))|(dsimp only;exact Kd.own_blk (Kd.R_ne HO_9.out z01.out (by decide)))) _).trans (hHeld.2.2.2.2.2.1)))))))))),((cell_far (p:=⟨z02,_,none⟩) (by first|exact Kd.own_blk (Kd.R_ne HO_9.out z01.out (by decide))|(rw [add_block];exact Kd.own_blk (Kd.R_ne HO_9.out z01.out (by decide)))|(show (Addr.add _ _).block ≠ _;rw [add_block];exact Kd.own_blk (Kd.R_ne HO_9.out z01.out (by decide)))|(dsimp only;exact Kd.own_blk (Kd.R_ne HO_9.out z01.out (by decide)))) _).trans (((cell_far (p:=⟨z02,_,none⟩) (by first|exact Kd.own_blk (Kd.R_ne HO_9.out z01.out (by decide))|(rw [add_block];exact Kd.own_blk (Kd.R_ne HO_9.out z01.out (by decide)))|(show (Addr.add _ _).block ≠ _;rw [add_block];exact Kd.own_blk (Kd.R_ne HO_9.out z01.out (by decide)))|(dsimp only;exact Kd.own_blk (Kd.R_ne HO_9.out z01.out (by decide)))) _).trans (((cell_far (p:=⟨z02,_,none⟩) (by first|exact Kd.own_blk (Kd.R_ne HO_9.out z01.out (by decide))|(rw [add_block];exact Kd.own_blk (Kd.R_ne HO_9.out z01.out (by decide)))|(show (Addr.add _ _).block ≠ _;rw [add_block];exact Kd.own_blk (Kd.R_ne HO_9.out z01.out (by decide)))|(dsimp only;exact Kd.own_blk (Kd.R_ne HO_9.out z01.out (by decide)))) _).trans (((cell_far (p:=⟨z02,_,none⟩) (by first|exact Kd.own_blk (Kd.R_ne HO_9.out z01.out (by decide))|(rw [add_block];exact Kd.own_blk (Kd.R_ne HO_9.out z01.out (by decide)))|(show (Addr.add _ _).block ≠ _;rw [add_block];exact Kd.own_blk (Kd.R_ne HO_9.out z01.out (by decide)))|(dsimp only;exact Kd.own_blk (Kd.R_ne HO_9.out z01.out (by decide)))) _).trans (((cell_far (p:=⟨z02,_,none⟩) (by first|exact Kd.own_blk (Kd.R_ne HO_9.out z01.out (by decide))|(rw [add_block];exact Kd.own_blk (Kd.R_ne HO_9.out z01.out (by decide)))|(show (Addr.add _ _).block ≠ _;rw [add_block];exact Kd.own_blk (Kd.R_ne HO_9.out z01.out (by decide)))|(dsimp only;exact Kd.own_blk (Kd.R_ne HO_9.out z01.out (by decide)))) _).trans (hHeld.2.2.2.2.2.2))))))))))⟩ (fun hHeld => ?_);clear hK K;refine done_ (done_of HT_.out (by kernel_rfl)) ?_;have z4l:=z07.out;have z4m:=z03.out;have z4n:=z08.out;have z4o:=z00.out;obtain ⟨z2d,z2e,z2f,z2g,z2h,z2i,z2j,z2k,z2l,z2m⟩:=kc5 z01.out;try go_wp2_with (first|((with_reducible refine gate_callee (f:=47) rfl ?_);refine goesL_ (some 77) rfl rfl Try.func47 (by kernel_rfl) rfl #[.agg #[.bool ((Go.bits .and .u8 z09 128) != 0),.int .u8 (Go.bits .and .u8 z09 7),.int .u32 ((rd z0a 0) % 4294967296),.int .u16 (IntKind.u16.wrap (rd z0a 2)),.string (z0o.extract 0 48)]] rfl (by (try simp only [List.map_toArray,List.map_cons,List.map_nil]);first|done|rfl|(simp only [List.length_drop,List.length_take];rfl)) ?_;(with_reducible refine (ccm_Msg_wrong.calls kj17 ((Go.bits .and .u8 z09 128) != 0) (Go.bits .and .u8 z09 7) ((rd z0a 0) % 4294967296) (IntKind.u16.wrap (rd z0a 2)) (z0o.extract 0 48) z11 _ A42.out).mono ?_);rintro e w55 ⟨rfl,hb⟩;refine ⟨_,rfl,?_⟩;have n0_:=zM (Kd.R_below (by (with_reducible repeat (first|apply Kd.R_alloc|apply Kd.R_drewN|apply Kd.R_drew));exact (Kd.R_mono (Kd.R_far (p:=⟨z02,4,none⟩) (Kd.R_far (p:=⟨z02,3,none⟩) (Kd.R_far (p:=⟨z02,2,none⟩) (Kd.R_far (p:=⟨z02,1,none⟩) (Kd.R_far (p:=⟨z02,0,none⟩) (Kd.R_types HO_9.out z01.out (by decide)) (fun _ hk => hk.2) (.bool ((Go.bits .and .u8 z09 128) != 0))) (fun _ hk => hk.2) (.int .u8 (Go.bits .and .u8 z09 7))) (fun _ hk => hk.2) (.int .u32 ((rd z0a 0) % 4294967296))) (fun _ hk => hk.2) (.int .u16 (IntKind.u16.wrap (rd z0a 2)))) (fun _ hk => hk.2) (.string (z0o.extract 0 48))) (fun _ h_ => h_.1))) hb);have n1_:=zM (zB (g:=z0c) (o:=.cells #[.bool false,.int .u8 0,.int .u32 0,.int .u16 0,.string (⟨#[]⟩ : ByteArray)] 62 (0,0)) (by (with_reducible repeat first|apply zN|apply zD|apply zA);refine zG ?_ z03.out _;(with_reducible repeat first|apply zN|apply zD|apply zA);refine zG ?_ z03.out _;(with_reducible repeat first|apply zN|apply zD|apply zA);refine zG ?_ z03.out _;(with_reducible repeat first|apply zN|apply zD|apply zA);refine zG ?_ z03.out _;(with_reducible repeat first|apply zN|apply zD|apply zA);refine zG ?_ z03.out _;(with_reducible repeat first|apply zN|apply zD|apply zA);exact z05.out) hb);have n2_:=zM (zB (g:=z0b) (o:=.cells #[.int .u8 z0j,.int .u8 z0k,.int .u8 z0l,.int .u8 z09,.int .u8 z0n] 84 (0,0)) (by (with_reducible repeat first|apply zN|apply zD|apply zA);refine zG ?_ z00.out _;(with_reducible repeat first|apply zN|apply zD|apply zA);refine zG ?_ z00.out _;(with_reducible repeat first|apply zN|apply zD|apply zA);refine zG ?_ z00.out _;(with_reducible repeat first|apply zN|apply zD|apply zA);refine zG ?_ z00.out _;(with_reducible repeat first|apply zN|apply zD|apply zA);refine zG ?_ z00.out _;(with_reducible repeat first|apply zN|apply zD|apply zA);exact z04.out) hb);have n3_:=zM (zB (g:=z02) (o:=.cells #[.bool ((Go.bits .and .u8 z09 128) != 0),.int .u8 (Go.bits .and .u8 z09 7),.int .u32 ((rd z0a 0) % 4294967296),.int .u16 (IntKind.u16.wrap (rd z0a 2)),.string (z0o.extract 0 48)] 62 (0,0)) (by (with_reducible repeat first|apply zN|apply zD|apply zA);refine zP (cs:=#[.bool ((Go.bits .and .u8 z09 128) != 0),.int .u8 (Go.bits .and .u8 z09 7),.int .u32 ((rd z0a 0) % 4294967296),.int .u16 (IntKind.u16.wrap (rd z0a 2)),.string (⟨#[]⟩ : ByteArray)]) ?_ 4 _ rfl;(with_reducible repeat first|apply zN|apply zD|apply zA);refine zP (cs:=#[.bool ((Go.bits .and .u8 z09 128) != 0),.int .u8 (Go.bits .and .u8 z09 7),.int .u32 ((rd z0a 0) % 4294967296),.int .u16 0,.string (⟨#[]⟩ : ByteArray)]) ?_ 3 _ rfl;(with_reducible repeat first|apply zN|apply zD|apply zA);refine zP (cs:=#[.bool ((Go.bits .and .u8 z09 128) != 0),.int .u8 (Go.bits .and .u8 z09 7),.int .u32 0,.int .u16 0,.string (⟨#[]⟩ : ByteArray)]) ?_ 2 _ rfl;(with_reducible repeat first|apply zN|apply zD|apply zA);refine zP (cs:=#[.bool ((Go.bits .and .u8 z09 128) != 0),.int .u8 0,.int .u32 0,.int .u16 0,.string (⟨#[]⟩ : ByteArray)]) ?_ 1 _ rfl;(with_reducible repeat first|apply zN|apply zD|apply zA);refine zP (cs:=#[.bool false,.int .u8 0,.int .u32 0,.int .u16 0,.string (⟨#[]⟩ : ByteArray)]) ?_ 0 _ rfl;(with_reducible repeat first|apply zN|apply zD|apply zA);exact z01.out) hb);have n4_:=zM (yT (by repeat (first|(with_reducible first|exact HB.out|apply yA|apply yN|apply yD|refine yS ?_ z0d.out|refine yS ?_ z0f.out|refine yS ?_ z10.out)|exact HB.out)) hb);clear HO_9;clear z05;clear z04;clear z01;clear HB;have HO_9:=n0_;have z05:=n1_;have z04:=n2_;have z01:=n3_;have HB:=n4_;clear n0_ n1_ n2_ n3_ n4_;(try clear hb);(try clear hb2);(try clear hk);(try clear hi);obtain ⟨z2n,z2o,z2p,z2q,z2r,z2s,z2t,z2u,z2v,z2w⟩:=kc5 z01.out;have z4p:=z06.out;have z4q:=z0e.out;obtain ⟨z2x,z2y,z2z,z30,z31,z32,z33,z34,z35,z36⟩:=kc5 z05.out))
            refine zE (results_ct rfl _ _ z0c 62 #[.bool ((Go.bits .and .u8 z09 128) != 0),.int .u8 (Go.bits .and .u8 z09 7),.int .u32 ((rd z0a 0) % 4294967296),.int .u16 (IntKind.u16.wrap (rd z0a 2)),.string (z0o.extract 0 48)] (0,0) _ rfl (by (with_reducible repeat first|apply zN|apply zD|apply zA);refine zP (cs:=#[.bool ((Go.bits .and .u8 z09 128) != 0),.int .u8 (Go.bits .and .u8 z09 7),.int .u32 ((rd z0a 0) % 4294967296),.int .u16 (IntKind.u16.wrap (rd z0a 2)),.string (⟨#[]⟩ : ByteArray)]) ?_ 4 _ rfl;(with_reducible repeat first|apply zN|apply zD|apply zA);refine zP (cs:=#[.bool ((Go.bits .and .u8 z09 128) != 0),.int .u8 (Go.bits .and .u8 z09 7),.int .u32 ((rd z0a 0) % 4294967296),.int .u16 0,.string (⟨#[]⟩ : ByteArray)]) ?_ 3 _ rfl;(with_reducible repeat first|apply zN|apply zD|apply zA);refine zP (cs:=#[.bool ((Go.bits .and .u8 z09 128) != 0),.int .u8 (Go.bits .and .u8 z09 7),.int .u32 0,.int .u16 0,.string (⟨#[]⟩ : ByteArray)]) ?_ 2 _ rfl;(with_reducible repeat first|apply zN|apply zD|apply zA);refine zP (cs:=#[.bool ((Go.bits .and .u8 z09 128) != 0),.int .u8 0,.int .u32 0,.int .u16 0,.string (⟨#[]⟩ : ByteArray)]) ?_ 1 _ rfl;(with_reducible repeat first|apply zN|apply zD|apply zA);refine zP (cs:=#[.bool false,.int .u8 0,.int .u32 0,.int .u16 0,.string (⟨#[]⟩ : ByteArray)]) ?_ 0 _ rfl;(with_reducible repeat first|apply zN|apply zD|apply zA);exact z05.out) Try.underlying62 rfl (by kernel_rfl)) rfl ?_;exact ⟨by first|rfl|(simp [errW_none,errW_some] <;> rfl)|(simp [*,errW_none,errW_some] <;> rfl),by repeat (first|(with_reducible first|exact HB.out|apply yA|apply yN|apply yD|refine yS ?_ z0d.out|refine yS ?_ z0f.out|refine yS ?_ z10.out)|exact HB.out)⟩
           rw [if_neg c43] at H;have c43b0 : (z11 == 0) = false:=beq_eq_false_iff_ne.mpr c43;have c43b1 : (z11 != 0) = true:=bne_iff_ne.mpr c43;simp only [Option.some.injEq,Prod.mk.injEq] at H;obtain ⟨rfl,rfl,rfl,rfl,rfl,rfl⟩:=H;try go_wp2
           have n0_:=zM (Kd.R_drew HO_9.out);have n1_:=zM (zD z05.out);have n2_:=zM (zD z04.out);have n3_:=zM (yD HB.out);clear HO_9;clear z05;clear z04;clear HB;have HO_9:=n0_;have z05:=n1_;have z04:=n2_;have HB:=n3_;clear n0_ n1_ n2_ n3_;obtain ⟨Ao60,co60,eo60⟩:=Kd.R_slice HO_9.out;(first|subst eo60|(injection eo60 with f1_ f2_ f3_;have f4_:=f1_.symm;have f5_:=f3_.symm;clear f1_ f2_ f3_;subst f4_;subst f5_))
           have p263 : 0 ≤ (0 : Int):=(by omega)
           have q263 : 0 < (z0a.length : Int):=of_decide_eq_true (by first|(with_reducible assumption)|assumption);obtain ⟨ad263,e263,z0h⟩:=Kd.at_int (Kd.R_reads' HO_9.out).2.2 0 p263 q263;cases e263;have qi263 : (0 < z0a.length) = True:=eq_true (by omega);(try rw [show ((0 : Int)).toNat = 0 from rfl] at z0h)
           (try rw [Addr.add_zero'] at z0h)
           replace p263:=eq_true p263;replace q263:=eq_true q263;have p264 : 0 ≤ (2 : Int):=(by omega)
           have q264 : 2 < (z0a.length : Int):=of_decide_eq_true (by first|(with_reducible assumption)|assumption);obtain ⟨ad264,e264,z0i⟩:=Kd.at_int (Kd.R_reads' HO_9.out).2.2 2 p264 q264;obtain rfl : ad263 = ad264:=(by injection e264)
           (try simp only [show (2 : Int).toNat = 2 from rfl,Nat.reduceMul,Nat.reduceEqDiff,Go.Addr.add,↓reduceIte] at z0i)
           have qi264 : (2 < z0a.length) = True:=eq_true (by omega);(try rw [show ((2 : Int)).toNat = 2 from rfl] at z0i)
           replace p264:=eq_true p264;replace q264:=eq_true q264;refine start_ (n:=20) (S:=fun w' => w'.cell? ⟨z0b,0,none⟩ = some (.int .u8 z0j) ∧ w'.cell? ⟨z0b,1,none⟩ = some (.int .u8 z0k) ∧ w'.cell? ⟨z0b,2,none⟩ = some (.int .u8 z0l) ∧ w'.cell? ⟨z0b,3,none⟩ = some (.int .u8 z09) ∧ w'.cell? ⟨z0b,4,none⟩ = some (.int .u8 z0n) ∧ w'.cell? ad263 = some (.int .u64 (rd z0a 0)) ∧ w'.cell? ⟨ad263.block,ad263.off + 2,none⟩ = some (.int .u64 (rd z0a 2))) (ds:=[]) #[false,false,false,false,false,false,false,false,false,false,false,false,false,false,false,false,false,false,false,false] (by kernel_rfl) rfl rfl ⟨(zC z04.out 0).trans rfl,(zC z04.out 1).trans rfl,(zC z04.out 2).trans rfl,(zC z04.out 3).trans rfl,(zC z04.out 4).trans rfl,z0h,z0i⟩ (fun hHeld => ?_);refine with_tabW ccm_Open.tab11 ccm_Open.bits11 (fun HT_ HW_ => ?_);generalize wc.drew = w59 at HO_9 z05 z04 HB z0h z0i hHeld ⊢
           refine pure_ (i:=0) (N:=some 58) (v:=?_) (a':=?_) #[true,false,false,false,false,false,false,false,false,false,false,false,false,false,false,false,false,false,false,false] rfl rfl (any_of HT_.out (by kernel_rfl)) (fun _ _ _ h => h) (Or.inl ⟨by rfl,?_⟩) ?_ ?_;rotate_left
           ·
            intro w';go_simp;with_reducible rfl
           rotate_left
           ·
            simp only [Act.put,sA,sB,sC,i64_w,i32_w];rfl
           refine pure_ (i:=4) (N:=some 62) (v:=?_) (a':=?_) #[true,false,false,false,true,false,false,false,false,false,false,false,false,false,false,false,false,false,false,false] rfl rfl (any_of HT_.out (by kernel_rfl)) (fun _ _ _ h => h) (Or.inl ⟨by rfl,?_⟩) ?_ ?_;rotate_left
           ·
            intro w';go_simp;with_reducible rfl
           rotate_left
           ·
            simp only [Act.put,sA,sB,sC,i64_w,i32_w];rfl
           refine pure_ (i:=7) (N:=some 65) (v:=?_) (a':=?_) #[true,false,false,false,true,false,false,true,false,false,false,false,false,false,false,false,false,false,false,false] rfl rfl (any_of HT_.out (by kernel_rfl)) (fun _ _ _ h => h) (Or.inl ⟨by rfl,?_⟩) ?_ ?_;rotate_left
           ·
            intro w';go_simp;with_reducible rfl
           rotate_left
           ·
            simp only [Act.put,sA,sB,sC,i64_w,i32_w];rfl
           refine pure_ (i:=8) (N:=some 66) (v:=?_) (a':=?_) #[true,false,false,false,true,false,false,true,true,false,false,false,false,false,false,false,false,false,false,false] rfl rfl (any_of HT_.out (by kernel_rfl)) (fun _ _ _ h => h) (Or.inl ⟨by rfl,?_⟩) ?_ ?_;rotate_left
           ·
            intro w';go_simp;with_reducible rfl
           rotate_left
           ·
            simp only [Act.put,sA,sB,sC,i64_w,i32_w];rfl
           refine pure_ (i:=11) (N:=some 69) (v:=?_) (a':=?_) #[true,false,false,false,true,false,false,true,true,false,false,true,false,false,false,false,false,false,false,false] rfl rfl (any_of HT_.out (by kernel_rfl)) (fun _ _ _ h => h) (Or.inl ⟨by rfl,?_⟩) ?_ ?_;rotate_left
           ·
            intro w';go_simp;with_reducible rfl
           rotate_left
           ·
            simp only [Act.put,sA,sB,sC,i64_w,i32_w];rfl
           refine pure_ (i:=12) (N:=some 70) (v:=?_) (a':=?_) #[true,false,false,false,true,false,false,true,true,false,false,true,true,false,false,false,false,false,false,false] rfl rfl (any_of HT_.out (by kernel_rfl)) (fun _ _ _ h => h) (Or.inl ⟨by rfl,?_⟩) ?_ ?_;rotate_left
           ·
            intro w';go_simp;with_reducible rfl
           rotate_left
           ·
            simp only [Act.put,sA,sB,sC,i64_w,i32_w];rfl
           refine pure_ (i:=15) (N:=some 73) (v:=?_) (a':=?_) #[true,false,false,false,true,false,false,true,true,false,false,true,true,false,false,true,false,false,false,false] rfl rfl (any_of HT_.out (by kernel_rfl)) (fun _ _ _ h => h) (Or.inl ⟨by rfl,?_⟩) ?_ ?_;rotate_left
           ·
            intro w';go_simp;with_reducible rfl
           rotate_left
           ·
            simp only [Act.put,sA,sB,sC,i64_w,i32_w];rfl
           refine pure_ (i:=16) (N:=some 74) (v:=?_) (a':=?_) #[true,false,false,false,true,false,false,true,true,false,false,true,true,false,false,true,true,false,false,false] rfl rfl (any_of HT_.out (by kernel_rfl)) (fun _ _ _ h => h) (Or.inl ⟨by rfl,?_⟩) ?_ ?_;rotate_left
           ·
            intro w';go_simp;with_reducible rfl
           rotate_left
           ·
            simp only [Act.put,sA,sB,sC,i64_w,i32_w];rfl
           refine take_ (i:=1) (N:=some 59) (v:=?_) (a':=?_) #[true,true,false,false,true,false,false,true,true,false,false,true,true,false,false,true,true,false,false,false] rfl rfl (take_ofW HT_.out HW_.out (by kernel_rfl)) (fun _ _ _ h => h) (Or.inl ⟨by rfl,?_⟩) hHeld ?_ ?_;rotate_left
           ·
            rintro w' ⟨s0,s1,s2,s3,s4,s5,s6⟩
            go_simp;with_reducible rfl
           rotate_left
           ·
            simp only [Act.put,sA,sB,sC,i64_w,i32_w];rfl
           refine pure_ (i:=2) (N:=some 60) (v:=?_) (a':=?_) #[true,true,true,false,true,false,false,true,true,false,false,true,true,false,false,true,true,false,false,false] rfl rfl (any_of HT_.out (by kernel_rfl)) (fun _ _ _ h => h) (Or.inl ⟨by rfl,?_⟩) ?_ ?_;rotate_left
           ·
            intro w';go_simp;with_reducible rfl
           rotate_left
           ·
            simp only [Act.put,sA,sB,sC,i64_w,i32_w];rfl
           refine pure_ (i:=3) (N:=some 61) (v:=?_) (a':=?_) #[true,true,true,true,true,false,false,true,true,false,false,true,true,false,false,true,true,false,false,false] rfl rfl (any_of HT_.out (by kernel_rfl)) (fun _ _ _ h => h) (Or.inl ⟨by rfl,?_⟩) ?_ ?_;rotate_left
           ·
            intro w';go_simp;with_reducible rfl
           rotate_left
           ·
            simp only [Act.put,sA,sB,sC,i64_w,i32_w];rfl
           refine take_ (i:=5) (N:=some 63) (v:=?_) (a':=?_) #[true,true,true,true,true,true,false,true,true,false,false,true,true,false,false,true,true,false,false,false] rfl rfl (take_ofW HT_.out HW_.out (by kernel_rfl)) (fun _ _ _ h => h) (Or.inl ⟨by rfl,?_⟩) hHeld ?_ ?_;rotate_left
           ·
            rintro w' ⟨s0,s1,s2,s3,s4,s5,s6⟩
            go_simp;with_reducible rfl
           rotate_left
           ·
            simp only [Act.put,sA,sB,sC,i64_w,i32_w];rfl
           refine pure_ (i:=6) (N:=some 64) (v:=?_) (a':=?_) #[true,true,true,true,true,true,true,true,true,false,false,true,true,false,false,true,true,false,false,false] rfl rfl (any_of HT_.out (by kernel_rfl)) (fun _ _ _ h => h) (Or.inl ⟨by rfl,?_⟩) ?_ ?_;rotate_left
           ·
            intro w';go_simp;with_reducible rfl
           rotate_left
           ·
            simp only [Act.put,sA,sB,sC,i64_w,i32_w];rfl
           refine take_ (i:=9) (N:=some 67) (v:=?_) (a':=?_) #[true,true,true,true,true,true,true,true,true,true,false,true,true,false,false,true,true,false,false,false] rfl rfl (take_ofW HT_.out HW_.out (by kernel_rfl)) (fun _ _ _ h => h) (Or.inl ⟨by rfl,?_⟩) hHeld ?_ ?_;rotate_left
           ·
            rintro w' ⟨s0,s1,s2,s3,s4,s5,s6⟩
            go_simp;with_reducible rfl
           rotate_left
           ·
            simp only [Act.put,sA,sB,sC,i64_w,i32_w];rfl
           refine pure_ (i:=10) (N:=some 68) (v:=?_) (a':=?_) #[true,true,true,true,true,true,true,true,true,true,true,true,true,false,false,true,true,false,false,false] rfl rfl (any_of HT_.out (by kernel_rfl)) (fun _ _ _ h => h) (Or.inl ⟨by rfl,?_⟩) ?_ ?_;rotate_left
           ·
            intro w';go_simp;with_reducible rfl
           rotate_left
           ·
            simp only [Act.put,sA,sB,sC,i64_w,i32_w];rfl
           refine take_ (i:=13) (N:=some 71) (v:=?_) (a':=?_) #[true,true,true,true,true,true,true,true,true,true,true,true,true,true,false,true,true,false,false,false] rfl rfl (take_ofW HT_.out HW_.out (by kernel_rfl)) (fun _ _ _ h => h) (Or.inl ⟨by rfl,?_⟩) hHeld ?_ ?_;rotate_left
           ·
            rintro w' ⟨s0,s1,s2,s3,s4,s5,s6⟩
            go_simp;with_reducible rfl
           rotate_left
           ·
            simp only [Act.put,sA,sB,sC,i64_w,i32_w];rfl
           refine pure_ (i:=14) (N:=some 72) (v:=?_) (a':=?_) #[true,true,true,true,true,true,true,true,true,true,true,true,true,true,true,true,true,false,false,false] rfl rfl (any_of HT_.out (by kernel_rfl)) (fun _ _ _ h => h) (Or.inl ⟨by rfl,?_⟩) ?_ ?_;rotate_left
           ·
            intro w';go_simp;with_reducible rfl
           rotate_left
           ·
            simp only [Act.put,sA,sB,sC,i64_w,i32_w];rfl
           refine pure_ (i:=17) (N:=some 75) (v:=?_) (a':=?_) #[true,true,true,true,true,true,true,true,true,true,true,true,true,true,true,true,true,true,false,false] rfl rfl (any_of HT_.out (by kernel_rfl)) (fun _ _ _ h => h) (Or.inl ⟨by rfl,?_⟩) ?_ ?_;rotate_left
           ·
            intro w';go_simp;with_reducible rfl
           rotate_left
           ·
            simp only [Act.put,sA,sB,sC,i64_w,i32_w];rfl
           refine one_ (i:=18) (N:=some 11) #[true,true,true,true,true,true,true,true,true,true,true,true,true,true,true,true,true,true,true,false] rfl rfl (one_of HT_.out (by kernel_rfl)) (by decide) (fun K hK => ?_);refine box_step ?hg (N:=11) ?hd (cs:=#[.bool false,.int .u8 0,.int .u32 0,.int .u16 0,.string (⟨#[]⟩ : ByteArray)]) (t:=62) ?hr ?_;(case hd => rfl);(case hg => rfl);(case hr => first|(go_simp;done)|(go_simp;rfl));intro z02 hg w61 hbox hb;have HS5_:=(hb.cell (World.block_lt_of_cell? _ _ (hHeld.2.2.2.2.2.1))).trans (hHeld.2.2.2.2.2.1);have HS6_:=(hb.cell (World.block_lt_of_cell? _ _ (hHeld.2.2.2.2.2.2))).trans (hHeld.2.2.2.2.2.2);have n0_:=zM (Kd.R_below (by (with_reducible repeat (first|apply Kd.R_alloc|apply Kd.R_drewN|apply Kd.R_drew));exact HO_9.out) hb);have n1_:=zM (zB (g:=z0c) (o:=.cells #[.bool false,.int .u8 0,.int .u32 0,.int .u16 0,.string (⟨#[]⟩ : ByteArray)] 62 (0,0)) (by (with_reducible repeat first|apply zN|apply zD|apply zA);exact z05.out) hb);have n2_:=zM (zB (g:=z0b) (o:=.cells #[.int .u8 z0j,.int .u8 z0k,.int .u8 z0l,.int .u8 z09,.int .u8 z0n] 84 (0,0)) (by (with_reducible repeat first|apply zN|apply zD|apply zA);exact z04.out) hb);have n3_:=zM (yT (by repeat (first|(with_reducible first|exact HB.out|apply yA|apply yN|apply yD|refine yS ?_ z0d.out|refine yS ?_ z0f.out)|exact HB.out)) hb);have n4_:=zM (hbox);have n5_:=zM ((by rw [hg];exact (yZ (by repeat (first|(with_reducible first|exact HB.out|apply yA|apply yN|apply yD|refine yS ?_ z0d.out|refine yS ?_ z0f.out)|exact HB.out))) : w.heap.size ≤ z02));have n6_:=zM ((by rw [hg];exact (yZ (by repeat (first|(with_reducible first|exact HB.out|apply yA|apply yN|apply yD|refine yS ?_ z0d.out|refine yS ?_ z0f.out)|exact HB.out))) : w.heap.size ≤ z02));have n7_:=zM ((by rw [hg];exact Nat.ne_of_lt (blk_lt (g:=z0c) (o:=.cells #[.bool false,.int .u8 0,.int .u32 0,.int .u16 0,.string (⟨#[]⟩ : ByteArray)] 62 (0,0)) (by (with_reducible repeat first|apply zN|apply zD|apply zA);exact z05.out)) : z0c ≠ z02));have n8_:=zM ((by rw [hg];exact Nat.ne_of_gt (blk_lt (g:=z0c) (o:=.cells #[.bool false,.int .u8 0,.int .u32 0,.int .u16 0,.string (⟨#[]⟩ : ByteArray)] 62 (0,0)) (by (with_reducible repeat first|apply zN|apply zD|apply zA);exact z05.out)) : z02 ≠ z0c));have n9_:=zM ((by rw [hg];exact Nat.ne_of_lt (blk_lt (g:=z0b) (o:=.cells #[.int .u8 z0j,.int .u8 z0k,.int .u8 z0l,.int .u8 z09,.int .u8 z0n] 84 (0,0)) (by (with_reducible repeat first|apply zN|apply zD|apply zA);exact z04.out)) : z0b ≠ z02));have n10_:=zM ((by rw [hg];exact Nat.ne_of_gt (blk_lt (g:=z0b) (o:=.cells #[.int .u8 z0j,.int .u8 z0k,.int .u8 z0l,.int .u8 z09,.int .u8 z0n] 84 (0,0)) (by (with_reducible repeat first|apply zN|apply zD|apply zA);exact z04.out)) : z02 ≠ z0b));clear HO_9;clear z05;clear z04;clear HB;have HO_9:=n0_;have z05:=n1_;have z04:=n2_;have HB:=n3_;have z01:=n4_;have z2c:=n5_;have z10:=n6_;have z03:=n7_;have z07:=n8_;have z00:=n9_;have z08:=n10_;clear n0_ n1_ n2_ n3_ n4_ n5_ n6_ n7_ n8_ n9_ n10_;clear hb hbox hg;refine hK.out _ _ ⟨(zC z04.out 0).trans rfl,(zC z04.out 1).trans rfl,(zC z04.out 2).trans rfl,(zC z04.out 3).trans rfl,(zC z04.out 4).trans rfl,HS5_,HS6_⟩ (fun hHeld => ?_);clear hK K;refine norm_ (a':=?_) ?_ ?_;rotate_left
           ·
            show Act.put _ (some 11) _ = _
            simp only [Act.put,sA,sB,sC,i64_w,i32_w];rfl
           refine one_ (i:=19) (N:=none) #[true,true,true,true,true,true,true,true,true,true,true,true,true,true,true,true,true,true,true,true] rfl rfl (one_of HT_.out (by kernel_rfl)) (by decide) (fun K hK => ?_);have hs62 : w61.cell? ⟨z02,0,none⟩ = some (.bool false):=(zC z01.out 0).trans rfl;have hfs62:=zF z01.out 0;have hns62_0:=z03.out;have hns62_1:=z00.out;have hms62_0:=z07.out;have hms62_1:=z08.out;have hs63 : w61.cell? ⟨z02,1,none⟩ = some (.int .u8 0):=(zC z01.out 1).trans rfl;have hfs63:=zF z01.out 1;have hns63_0:=z03.out;have hns63_1:=z00.out;have hms63_0:=z07.out;have hms63_1:=z08.out;have hs64 : w61.cell? ⟨z02,2,none⟩ = some (.int .u32 0):=(zC z01.out 2).trans rfl;have hfs64:=zF z01.out 2;have hns64_0:=z03.out;have hns64_1:=z00.out;have hms64_0:=z07.out;have hms64_1:=z08.out;have hs65 : w61.cell? ⟨z02,3,none⟩ = some (.int .u16 0):=(zC z01.out 3).trans rfl;have hfs65:=zF z01.out 3;have hns65_0:=z03.out;have hns65_1:=z00.out;have hms65_0:=z07.out;have hms65_1:=z08.out;have hs66 : w61.cell? ⟨z02,4,none⟩ = some (.string (⟨#[]⟩ : ByteArray)):=(zC z01.out 4).trans rfl;have hfs66:=zF z01.out 4;have hns66_0:=z03.out;have hns66_1:=z00.out;have hms66_0:=z07.out;have hms66_1:=z08.out;refine skip_ (w1:=?_) (by rfl) rfl ?_ ?_;rotate_left
           ·
            go_simp;rfl
           refine hK.out _ _ ⟨((cell_far (p:=⟨z02,_,none⟩) z00.out _).trans (((cell_far (p:=⟨z02,_,none⟩) z00.out _).trans (((cell_far (p:=⟨z02,_,none⟩) z00.out _).trans (((cell_far (p:=⟨z02,_,none⟩) z00.out _).trans (((cell_far (p:=⟨z02,_,none⟩) z00.out _).trans (hHeld.1)))))))))),((cell_far (p:=⟨z02,_,none⟩) z00.out _).trans (((cell_far (p:=⟨z02,_,none⟩) z00.out _).trans (((cell_far (p:=⟨z02,_,none⟩) z00.out _).trans (((cell_far (p:=⟨z02,_,none⟩) z00.out _).trans (((cell_far (p:=⟨z02,_,none⟩) z00.out _).trans (hHeld.2.1)))))))))),((cell_far (p:=⟨z02,_,none⟩) z00.out _).trans (((cell_far (p:=⟨z02,_,none⟩) z00.out _).trans (((cell_far (p:=⟨z02,_,none⟩) z00.out _).trans (((cell_far (p:=⟨z02,_,none⟩) z00.out _).trans (((cell_far (p:=⟨z02,_,none⟩) z00.out _).trans (hHeld.2.2.1)))))))))),((cell_far (p:=⟨z02,_,none⟩) z00.out _).trans (((cell_far (p:=⟨z02,_,none⟩) z00.out _).trans (((cell_far (p:=⟨z02,_,none⟩) z00.out _).trans (((cell_far (p:=⟨z02,_,none⟩) z00.out _).trans (((cell_far (p:=⟨z02,_,none⟩) z00.out _).trans (hHeld.2.2.2.1)))))))))),((cell_far (p:=⟨z02,_,none⟩) z00.out _).trans (((cell_far (p:=⟨z02,_,none⟩) z00.out _).trans (((cell_far (p:=⟨z02,_,none⟩) z00.out _).trans (((cell_far (p:=⟨z02,_,none⟩) z00.out _).trans (((cell_far (p:=⟨z02,_,none⟩) z00.out _).trans (hHeld.2.2.2.2.1)))))))))),((cell_far (p:=⟨z02,_,none⟩) (by first|exact Kd.own_blk (Kd.R_ne HO_9.out z01.out (by decide))|(rw [add_block];exact Kd.own_blk (Kd.R_ne HO_9.out z01.out (by decide)))|(show (Addr.add _ _).block ≠ _;rw [add_block];exact Kd.own_blk (Kd.R_ne HO_9.out z01.out (by decide)))|(dsimp only;exact Kd.own_blk (Kd.R_ne HO_9.out z01.out (by decide)))) _).trans (((cell_far (p:=⟨z02,_,none⟩) (by first|exact Kd.own_blk (Kd.R_ne HO_9.out z01.out (by decide))|(rw [add_block];exact Kd.own_blk (Kd.R_ne HO_9.out z01.out (by decide)))|(show (Addr.add _ _).block ≠ _;rw [add_block];exact Kd.own_blk (Kd.R_ne HO_9.out z01.out (by decide)))|(dsimp only;exact Kd.own_blk (Kd.R_ne HO_9.out z01.out (by decide)))) _).trans (((cell_far (p:=⟨z02,_,none⟩) (by first|exact Kd.own_blk (Kd.R_ne HO_9.out z01.out (by decide))|(rw [add_block];exact Kd.own_blk (Kd.R_ne HO_9.out z01.out (by decide)))|(show (Addr.add _ _).block ≠ _;rw [add_block];exact Kd.own_blk (Kd.R_ne HO_9.out z01.out (by decide)))|(dsimp only;exact Kd.own_blk (Kd.R_ne HO_9.out z01.out (by decide)))) _).trans (((cell_far (p:=⟨z02,_,none⟩) (by first|exact Kd.own_blk (Kd.R_ne HO_9.out z01.out (by decide))|(rw [add_block];exact Kd.own_blk (Kd.R_ne HO_9.out z01.out (by decide)))|(show (Addr.add _ _).block ≠ _;rw [add_block];exact Kd.own_blk (Kd.R_ne HO_9.out z01.out (by decide)))|(dsimp only;exact Kd.own_blk (Kd.R_ne HO_9.out z01.out (by decide)))) _).trans (((cell_far (p:=⟨z02,_,none⟩) (by first|exact Kd.own_blk (Kd.R_ne HO_9.out z01.out (by decide))|(rw [add_block];exact Kd.own_blk (Kd.R_ne HO_9.out z01.out (by decide)))|(show (Addr.add _ _).block ≠ _;rw [add_block];exact Kd.own_blk (Kd.R_ne HO_9.out z01.out (by decide)))|(dsimp only;exact Kd.own_blk (Kd.R_ne HO_9.out z01.out (by decide)))) _).trans (hHeld.2.2.2.2.2.1)))))))))),((cell_far (p:=⟨z02,_,none⟩) (by first|exact Kd.own_blk (Kd.R_ne HO_9.out z01.out (by decide))|(rw [add_block];exact Kd.own_blk (Kd.R_ne HO_9.out z01.out (by decide)))|(show (Addr.add _ _).block ≠ _;rw [add_block];exact Kd.own_blk (Kd.R_ne HO_9.out z01.out (by decide)))|(dsimp only;exact Kd.own_blk (Kd.R_ne HO_9.out z01.out (by decide)))) _).trans (((cell_far (p:=⟨z02,_,none⟩) (by first|exact Kd.own_blk (Kd.R_ne HO_9.out z01.out (by decide))|(rw [add_block];exact Kd.own_blk (Kd.R_ne HO_9.out z01.out (by decide)))|(show (Addr.add _ _).block ≠ _;rw [add_block];exact Kd.own_blk (Kd.R_ne HO_9.out z01.out (by decide)))|(dsimp only;exact Kd.own_blk (Kd.R_ne HO_9.out z01.out (by decide)))) _).trans (((cell_far (p:=⟨z02,_,none⟩) (by first|exact Kd.own_blk (Kd.R_ne HO_9.out z01.out (by decide))|(rw [add_block];exact Kd.own_blk (Kd.R_ne HO_9.out z01.out (by decide)))|(show (Addr.add _ _).block ≠ _;rw [add_block];exact Kd.own_blk (Kd.R_ne HO_9.out z01.out (by decide)))|(dsimp only;exact Kd.own_blk (Kd.R_ne HO_9.out z01.out (by decide)))) _).trans (((cell_far (p:=⟨z02,_,none⟩) (by first|exact Kd.own_blk (Kd.R_ne HO_9.out z01.out (by decide))|(rw [add_block];exact Kd.own_blk (Kd.R_ne HO_9.out z01.out (by decide)))|(show (Addr.add _ _).block ≠ _;rw [add_block];exact Kd.own_blk (Kd.R_ne HO_9.out z01.out (by decide)))|(dsimp only;exact Kd.own_blk (Kd.R_ne HO_9.out z01.out (by decide)))) _).trans (((cell_far (p:=⟨z02,_,none⟩) (by first|exact Kd.own_blk (Kd.R_ne HO_9.out z01.out (by decide))|(rw [add_block];exact Kd.own_blk (Kd.R_ne HO_9.out z01.out (by decide)))|(show (Addr.add _ _).block ≠ _;rw [add_block];exact Kd.own_blk (Kd.R_ne HO_9.out z01.out (by decide)))|(dsimp only;exact Kd.own_blk (Kd.R_ne HO_9.out z01.out (by decide)))) _).trans (hHeld.2.2.2.2.2.2))))))))))⟩ (fun hHeld => ?_);clear hK K;refine done_ (done_of HT_.out (by kernel_rfl)) ?_;have z4r:=z07.out;have z4s:=z03.out;have z4t:=z08.out;have z4u:=z00.out;obtain ⟨z37,z38,z39,z3a,z3b,z3c,z3d,z3e,z3f,z3g⟩:=kc5 z01.out;try go_wp2_with (first|((with_reducible refine gate_callee (f:=47) rfl ?_);refine goesL_ (some 77) rfl rfl Try.func47 (by kernel_rfl) rfl #[.agg #[.bool ((Go.bits .and .u8 z09 128) != 0),.int .u8 (Go.bits .and .u8 z09 7),.int .u32 ((rd z0a 0) % 4294967296),.int .u16 (IntKind.u16.wrap (rd z0a 2)),.string (z0o.extract 0 48)]] rfl (by (try simp only [List.map_toArray,List.map_cons,List.map_nil]);first|done|rfl|(simp only [List.length_drop,List.length_take];rfl)) ?_;(with_reducible refine (ccm_Msg_wrong.calls kj17 ((Go.bits .and .u8 z09 128) != 0) (Go.bits .and .u8 z09 7) ((rd z0a 0) % 4294967296) (IntKind.u16.wrap (rd z0a 2)) (z0o.extract 0 48) z11 _ A42.out).mono ?_);rintro e w70 ⟨rfl,hb⟩;refine ⟨_,rfl,?_⟩;have n0_:=zM (Kd.R_below (by (with_reducible repeat (first|apply Kd.R_alloc|apply Kd.R_drewN|apply Kd.R_drew));exact (Kd.R_mono (Kd.R_far (p:=⟨z02,4,none⟩) (Kd.R_far (p:=⟨z02,3,none⟩) (Kd.R_far (p:=⟨z02,2,none⟩) (Kd.R_far (p:=⟨z02,1,none⟩) (Kd.R_far (p:=⟨z02,0,none⟩) (Kd.R_types HO_9.out z01.out (by decide)) (fun _ hk => hk.2) (.bool ((Go.bits .and .u8 z09 128) != 0))) (fun _ hk => hk.2) (.int .u8 (Go.bits .and .u8 z09 7))) (fun _ hk => hk.2) (.int .u32 ((rd z0a 0) % 4294967296))) (fun _ hk => hk.2) (.int .u16 (IntKind.u16.wrap (rd z0a 2)))) (fun _ hk => hk.2) (.string (z0o.extract 0 48))) (fun _ h_ => h_.1))) hb);have n1_:=zM (zB (g:=z0c) (o:=.cells #[.bool false,.int .u8 0,.int .u32 0,.int .u16 0,.string (⟨#[]⟩ : ByteArray)] 62 (0,0)) (by (with_reducible repeat first|apply zN|apply zD|apply zA);refine zG ?_ z03.out _;(with_reducible repeat first|apply zN|apply zD|apply zA);refine zG ?_ z03.out _;(with_reducible repeat first|apply zN|apply zD|apply zA);refine zG ?_ z03.out _;(with_reducible repeat first|apply zN|apply zD|apply zA);refine zG ?_ z03.out _;(with_reducible repeat first|apply zN|apply zD|apply zA);refine zG ?_ z03.out _;(with_reducible repeat first|apply zN|apply zD|apply zA);exact z05.out) hb);have n2_:=zM (zB (g:=z0b) (o:=.cells #[.int .u8 z0j,.int .u8 z0k,.int .u8 z0l,.int .u8 z09,.int .u8 z0n] 84 (0,0)) (by (with_reducible repeat first|apply zN|apply zD|apply zA);refine zG ?_ z00.out _;(with_reducible repeat first|apply zN|apply zD|apply zA);refine zG ?_ z00.out _;(with_reducible repeat first|apply zN|apply zD|apply zA);refine zG ?_ z00.out _;(with_reducible repeat first|apply zN|apply zD|apply zA);refine zG ?_ z00.out _;(with_reducible repeat first|apply zN|apply zD|apply zA);refine zG ?_ z00.out _;(with_reducible repeat first|apply zN|apply zD|apply zA);exact z04.out) hb);have n3_:=zM (zB (g:=z02) (o:=.cells #[.bool ((Go.bits .and .u8 z09 128) != 0),.int .u8 (Go.bits .and .u8 z09 7),.int .u32 ((rd z0a 0) % 4294967296),.int .u16 (IntKind.u16.wrap (rd z0a 2)),.string (z0o.extract 0 48)] 62 (0,0)) (by (with_reducible repeat first|apply zN|apply zD|apply zA);refine zP (cs:=#[.bool ((Go.bits .and .u8 z09 128) != 0),.int .u8 (Go.bits .and .u8 z09 7),.int .u32 ((rd z0a 0) % 4294967296),.int .u16 (IntKind.u16.wrap (rd z0a 2)),.string (⟨#[]⟩ : ByteArray)]) ?_ 4 _ rfl;(with_reducible repeat first|apply zN|apply zD|apply zA);refine zP (cs:=#[.bool ((Go.bits .and .u8 z09 128) != 0),.int .u8 (Go.bits .and .u8 z09 7),.int .u32 ((rd z0a 0) % 4294967296),.int .u16 0,.string (⟨#[]⟩ : ByteArray)]) ?_ 3 _ rfl;(with_reducible repeat first|apply zN|apply zD|apply zA);refine zP (cs:=#[.bool ((Go.bits .and .u8 z09 128) != 0),.int .u8 (Go.bits .and .u8 z09 7),.int .u32 0,.int .u16 0,.string (⟨#[]⟩ : ByteArray)]) ?_ 2 _ rfl;(with_reducible repeat first|apply zN|apply zD|apply zA);refine zP (cs:=#[.bool ((Go.bits .and .u8 z09 128) != 0),.int .u8 0,.int .u32 0,.int .u16 0,.string (⟨#[]⟩ : ByteArray)]) ?_ 1 _ rfl;(with_reducible repeat first|apply zN|apply zD|apply zA);refine zP (cs:=#[.bool false,.int .u8 0,.int .u32 0,.int .u16 0,.string (⟨#[]⟩ : ByteArray)]) ?_ 0 _ rfl;(with_reducible repeat first|apply zN|apply zD|apply zA);exact z01.out) hb);have n4_:=zM (yT (by repeat (first|(with_reducible first|exact HB.out|apply yA|apply yN|apply yD|refine yS ?_ z0d.out|refine yS ?_ z0f.out|refine yS ?_ z10.out)|exact HB.out)) hb);clear HO_9;clear z05;clear z04;clear z01;clear HB;have HO_9:=n0_;have z05:=n1_;have z04:=n2_;have z01:=n3_;have HB:=n4_;clear n0_ n1_ n2_ n3_ n4_;(try clear hb);(try clear hb2);(try clear hk);(try clear hi);have z4v:=z06.out;have z4w:=z0e.out;obtain ⟨z3h,z3i,z3j,z3k,z3l,z3m,z3n,z3o,z3p,z3q⟩:=kc5 z05.out))
           refine zE (results_ct rfl _ _ z0c 62 #[.bool false,.int .u8 0,.int .u32 0,.int .u16 0,.string (⟨#[]⟩ : ByteArray)] (0,0) _ rfl (by (with_reducible repeat first|apply zN|apply zD|apply zA);refine zP (cs:=#[.bool false,.int .u8 0,.int .u32 0,.int .u16 0,.string (⟨#[]⟩ : ByteArray)]) ?_ 4 _ rfl;(with_reducible repeat first|apply zN|apply zD|apply zA);refine zP (cs:=#[.bool false,.int .u8 0,.int .u32 0,.int .u16 0,.string (⟨#[]⟩ : ByteArray)]) ?_ 3 _ rfl;(with_reducible repeat first|apply zN|apply zD|apply zA);refine zP (cs:=#[.bool false,.int .u8 0,.int .u32 0,.int .u16 0,.string (⟨#[]⟩ : ByteArray)]) ?_ 2 _ rfl;(with_reducible repeat first|apply zN|apply zD|apply zA);refine zP (cs:=#[.bool false,.int .u8 0,.int .u32 0,.int .u16 0,.string (⟨#[]⟩ : ByteArray)]) ?_ 1 _ rfl;(with_reducible repeat first|apply zN|apply zD|apply zA);refine zP (cs:=#[.bool false,.int .u8 0,.int .u32 0,.int .u16 0,.string (⟨#[]⟩ : ByteArray)]) ?_ 0 _ rfl;(with_reducible repeat first|apply zN|apply zD|apply zA);exact z05.out) Try.underlying62 rfl (by kernel_rfl)) rfl ?_;exact ⟨by first|rfl|(simp [errW_none,errW_some] <;> rfl)|(simp [*,errW_none,errW_some] <;> rfl),by repeat (first|(with_reducible first|exact HB.out|apply yA|apply yN|apply yD|refine yS ?_ z0d.out|refine yS ?_ z0f.out|refine yS ?_ z10.out)|exact HB.out)⟩
          rw [if_neg c41] at H;exact absurd H (by simp)
         rw [if_neg c40] at H;exact absurd H (by simp)
        rw [if_neg c39] at H;exact absurd H (by simp)
       rw [if_neg c38] at H;exact absurd H (by simp)
    rw [if_neg c17] at H;have c17b0 : (z1e == 0) = false:=beq_eq_false_iff_ne.mpr c17;have c17b1 : (z1e != 0) = true:=bne_iff_ne.mpr c17;simp only [Option.some.injEq,Prod.mk.injEq] at H;obtain ⟨rfl,rfl,rfl,rfl,rfl,rfl⟩:=H;go_wp2_with (first|((with_reducible refine gate_dst (N:=30) rfl ?_);refine Kd.R_lit (Kd.int .i64) _ 3 ?hg (N:=30) ?hd (xs:=([32,3,13] : List Int)) (inner:=[.int .i64 32,.int .i64 3,.int .i64 13]) (ok:=fun _ => True) (okp:=fun _ => True) ?hr ?hp (fun _ hk => hk) trivial (Below.refl _ _) (Nat.le_refl _) (by simp) ?_;(case hd => rfl);(case hg => rfl);(case hr => first|(go_simp;done)|(go_simp;rfl));(case hp => exact (Reps.one (show Kd.M (Kd.int .i64) _ _ _ 32 [.int .i64 32] from rfl) (Reps.one (show Kd.M (Kd.int .i64) _ _ _ 3 [.int .i64 3] from rfl) (Reps.one (show Kd.M (Kd.int .i64) _ _ _ 13 [.int .i64 13] from rfl) (Reps.none _ _)))));intro v254 w73 ho74 hb hg_ hnew_;clear hg_ hnew_;(first|rw [← Ny253.out] at ho74|(simp only [Int.reduceToNat] at ho74;rw [← Ny253.out] at ho74));have n0_:=zM (Kd.R_lower ho74 (yZ (by repeat (first|(with_reducible first|exact HB.out|apply yA|apply yN|apply yD|refine yS ?_ z0d.out|refine yS ?_ z0f.out)|exact HB.out))));have n1_:=zM (zB (g:=z0c) (o:=.cells #[.bool false,.int .u8 0,.int .u32 0,.int .u16 0,.string (⟨#[]⟩ : ByteArray)] 62 (0,0)) (by (with_reducible repeat first|apply zN|apply zD|apply zA);exact z05.out) hb);have n2_:=zM (zB (g:=z0b) (o:=.cells #[.int .u8 z0j,.int .u8 z0k,.int .u8 z0l,.int .u8 z09,.int .u8 z0n] 84 (0,0)) (by (with_reducible repeat first|apply zN|apply zD|apply zA);exact z04.out) hb);have n3_:=zM (yT (by repeat (first|(with_reducible first|exact HB.out|apply yA|apply yN|apply yD|refine yS ?_ z0d.out|refine yS ?_ z0f.out)|exact HB.out)) hb);clear z05;clear z04;clear HB;have z0m:=n0_;have z05:=n1_;have z04:=n2_;have HB:=n3_;clear n0_ n1_ n2_ n3_;clear hb ho74;obtain ⟨Ao75,co75,eo75⟩:=Kd.R_slice z0m.out;subst eo75)|((with_reducible refine gate_callee (f:=45) rfl ?_);refine goesL_ (some 31) rfl rfl Try.func45 (by kernel_rfl) rfl #[.string z1c,.slice Ao75 y253.length co75] rfl (by (try simp only [List.map_toArray,List.map_cons,List.map_nil]);first|done|rfl|(simp only [List.length_drop,List.length_take];rfl)) ?_;(with_reducible refine (field_Split.calls kj3 z1c _ _ y253 z0a z0o z1e _ ?side1 ?side2 A16.out).mono ?_);(case side1 => repeat (first|exact (Kd.R_reads' z0m.out).2.2|(with_reducible refine Kd.C_alloc ?_ _)|(with_reducible refine Kd.C_drewN ?_ _)|(with_reducible refine Kd.C_drew ?_)));(case side2 => exact (Kd.R_reads' z0m.out).2.1);rintro e w76 ⟨v259,rfl,ho0,hb⟩;refine ⟨_,rfl,?_⟩;have n0_:=zM (Kd.R_below (by (with_reducible repeat (first|apply Kd.R_alloc|apply Kd.R_drewN|apply Kd.R_drew));exact z0m.out) hb);have n1_:=zM (Kd.R_lower ho0 (yZ (by repeat (first|(with_reducible first|exact HB.out|apply yA|apply yN|apply yD|refine yS ?_ z0d.out|refine yS ?_ z0f.out)|exact HB.out))));have n2_:=zM (zB (g:=z0c) (o:=.cells #[.bool false,.int .u8 0,.int .u32 0,.int .u16 0,.string (⟨#[]⟩ : ByteArray)] 62 (0,0)) (by (with_reducible repeat first|apply zN|apply zD|apply zA);exact z05.out) hb);have n3_:=zM (zB (g:=z0b) (o:=.cells #[.int .u8 z0j,.int .u8 z0k,.int .u8 z0l,.int .u8 z09,.int .u8 z0n] 84 (0,0)) (by (with_reducible repeat first|apply zN|apply zD|apply zA);exact z04.out) hb);have n4_:=zM (yT (by repeat (first|(with_reducible first|exact HB.out|apply yA|apply yN|apply yD|refine yS ?_ z0d.out|refine yS ?_ z0f.out)|exact HB.out)) hb);clear z0m;clear z05;clear z04;clear HB;have z0m:=n0_;have z0p:=n1_;have z05:=n2_;have z04:=n3_;have HB:=n4_;clear n0_ n1_ n2_ n3_ n4_;(try clear hb);(try clear hb2);(try clear hk);(try clear hi);(try clear ho0);have z4x:=z06.out;have z4y:=z0e.out;obtain ⟨z3r,z3s,z3t,z3u,z3v,z3w,z3x,z3y,z3z,z40⟩:=kc5 z05.out))
    refine zE (results_ct rfl _ _ z0c 62 #[.bool false,.int .u8 0,.int .u32 0,.int .u16 0,.string (⟨#[]⟩ : ByteArray)] (0,0) _ rfl (by (with_reducible repeat first|apply zN|apply zD|apply zA);refine zP (cs:=#[.bool false,.int .u8 0,.int .u32 0,.int .u16 0,.string (⟨#[]⟩ : ByteArray)]) ?_ 4 _ rfl;(with_reducible repeat first|apply zN|apply zD|apply zA);refine zP (cs:=#[.bool false,.int .u8 0,.int .u32 0,.int .u16 0,.string (⟨#[]⟩ : ByteArray)]) ?_ 3 _ rfl;(with_reducible repeat first|apply zN|apply zD|apply zA);refine zP (cs:=#[.bool false,.int .u8 0,.int .u32 0,.int .u16 0,.string (⟨#[]⟩ : ByteArray)]) ?_ 2 _ rfl;(with_reducible repeat first|apply zN|apply zD|apply zA);refine zP (cs:=#[.bool false,.int .u8 0,.int .u32 0,.int .u16 0,.string (⟨#[]⟩ : ByteArray)]) ?_ 1 _ rfl;(with_reducible repeat first|apply zN|apply zD|apply zA);refine zP (cs:=#[.bool false,.int .u8 0,.int .u32 0,.int .u16 0,.string (⟨#[]⟩ : ByteArray)]) ?_ 0 _ rfl;(with_reducible repeat first|apply zN|apply zD|apply zA);exact z05.out) Try.underlying62 rfl (by kernel_rfl)) rfl ?_;exact ⟨by first|rfl|(simp [errW_none,errW_some] <;> rfl)|(simp [*,errW_none,errW_some] <;> rfl),by repeat (first|(with_reducible first|exact HB.out|apply yA|apply yN|apply yD|refine yS ?_ z0d.out|refine yS ?_ z0f.out)|exact HB.out)⟩
   rw [if_neg c15] at H;have c15b0 : (x8_3 == 0) = false:=beq_eq_false_iff_ne.mpr c15;have c15b1 : (x8_3 != 0) = true:=bne_iff_ne.mpr c15;simp only [Option.some.injEq,Prod.mk.injEq] at H;obtain ⟨rfl,rfl,rfl,rfl,rfl,rfl⟩:=H;have z4z:=z06.out;have z50:=z0e.out;obtain ⟨z41,z42,z43,z44,z45,z46,z47,z48,z49,z4a⟩:=kc5 z05.out;go_wp2;refine zE (results_ct rfl _ _ z0c 62 #[.bool false,.int .u8 0,.int .u32 0,.int .u16 0,.string (⟨#[]⟩ : ByteArray)] (0,0) _ rfl (by (with_reducible repeat first|apply zN|apply zD|apply zA);refine zP (cs:=#[.bool false,.int .u8 0,.int .u32 0,.int .u16 0,.string (⟨#[]⟩ : ByteArray)]) ?_ 4 _ rfl;(with_reducible repeat first|apply zN|apply zD|apply zA);refine zP (cs:=#[.bool false,.int .u8 0,.int .u32 0,.int .u16 0,.string (⟨#[]⟩ : ByteArray)]) ?_ 3 _ rfl;(with_reducible repeat first|apply zN|apply zD|apply zA);refine zP (cs:=#[.bool false,.int .u8 0,.int .u32 0,.int .u16 0,.string (⟨#[]⟩ : ByteArray)]) ?_ 2 _ rfl;(with_reducible repeat first|apply zN|apply zD|apply zA);refine zP (cs:=#[.bool false,.int .u8 0,.int .u32 0,.int .u16 0,.string (⟨#[]⟩ : ByteArray)]) ?_ 1 _ rfl;(with_reducible repeat first|apply zN|apply zD|apply zA);refine zP (cs:=#[.bool false,.int .u8 0,.int .u32 0,.int .u16 0,.string (⟨#[]⟩ : ByteArray)]) ?_ 0 _ rfl;(with_reducible repeat first|apply zN|apply zD|apply zA);exact z05.out) Try.underlying62 rfl (by kernel_rfl)) rfl ?_;exact ⟨by first|rfl|(simp [errW_none,errW_some] <;> rfl)|(simp [*,errW_none,errW_some] <;> rfl),by repeat (first|(with_reducible first|exact HB.out|apply yA|apply yN|apply yD|refine yS ?_ z0d.out|refine yS ?_ z0f.out)|exact HB.out)⟩

end Go.Proofs.Ytapicoienpbdfaa.PWatchPlays
