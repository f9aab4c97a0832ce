-- Written by a program of this work, after the translation.
import Derived.Test.YtapicoienpbdfaaPWatchSendsx0
import Derived.Test.YtapicoienpbdfaaPWatchSendsx1
import Derived.Test.YtapicoienpbdfaaPWatchSendsx3
import Derived.Test.YtapicoienpbdfaaPWatchSendsx4
namespace Go.Proofs.Ytapicoienpbdfaa.PWatchSends
open Go.RowKit Go.Proofs.YtapicoienpbdfaaW.PrintWords Go.Proofs.YtapicoienpbdfaaW.PrintLast Go.Proofs.YtapicoienpbdfaaW.PrintMore
attribute [local go_sem] max2_int min2_int max_two min_two max_three min_three max_four min_four   -- for this text's walks alone
set_option linter.unusedVariables false
set_option linter.unusedSimpArgs false

/-! ### ccm_Open: function 29 -/
mutual
def ccm_Open.j0 : Nat → ByteArray → Int → Int → Int → Int → Int → Int → Option (Bool × Int × Int × Int × ByteArray × Int)
  | 0, _, _, _, _, _, _, _ => none
  | k + 1, x7, x8, x209000, x209001, x209002, x209003, x209004 => if x8 = 0 then ((field_Split.f k x7 (([32, 3, 13] : List Int))).bind fun bt213 => (if bt213.2.2 = 0 then (if 1 < (bt213.1.length : Int) then (if (rd bt213.1 1) = 0 then (if (Go.bits .and .u8 x209003 120) = 0 then (if 48 ≤ (bt213.2.1.size : Int) then ((field_Noughts.f k (bt213.2.1.extract 48 bt213.2.1.size)).bind fun t219 => (ccm_Open.j1 k bt213.1 bt213.2.1 (!t219) x209000 x209001 x209002 x209003 x209004)) else (none)) else (ccm_Open.j1 k bt213.1 bt213.2.1 true x209000 x209001 x209002 x209003 x209004)) else (ccm_Open.j1 k bt213.1 bt213.2.1 true x209000 x209001 x209002 x209003 x209004)) else (none)) else (some (false, 0, 0, 0, (⟨#[]⟩ : ByteArray), bt213.2.2)))) else (some (false, 0, 0, 0, (⟨#[]⟩ : ByteArray), x8))
def ccm_Open.j1 : Nat → List Int → ByteArray → Bool → Int → Int → Int → Int → Int → Option (Bool × Int × Int × Int × ByteArray × Int)
  | 0, _, _, _, _, _, _, _, _ => none
  | k + 1, x9, x10, x40, x209000, x209001, x209002, x209003, x209004 => if x40 = true then (some (false, 0, 0, 0, (⟨#[]⟩ : ByteArray), 3)) else (if 0 < (x9.length : Int) then (if 2 < (x9.length : Int) then (if 0 ≤ 48 then (if 48 ≤ (x10.size : Int) then ((ccm_Msg_wrong.f k ((Go.bits .and .u8 x209003 128) != 0) (Go.bits .and .u8 x209003 7) ((rd x9 0) % 4294967296) (IntKind.u16.wrap (rd x9 2)) (x10.extract 0 48)).bind fun t223 => (if t223 = 0 then (some (((Go.bits .and .u8 x209003 128) != 0), Go.bits .and .u8 x209003 7, (rd x9 0) % 4294967296, IntKind.u16.wrap (rd x9 2), x10.extract 0 48, 0)) else (some (false, 0, 0, 0, (⟨#[]⟩ : ByteArray), t223)))) else (none)) else (none)) else (none)) else (none))
end
def ccm_Open.f (k : Nat) (a0 : ByteArray) (a1 : Int) : Option (Bool × Int × Int × Int × ByteArray × Int) := (oam_Open.f k a0).bind fun bt201 => (if bt201.2.2.2.2.2.2 = 0 then ((oam_Head_Is.f k bt201.1 bt201.2.1 bt201.2.2.1 bt201.2.2.2.1 bt201.2.2.2.2.1 a1 0 1 70).bind fun t209 => (ccm_Open.j0 k bt201.2.2.2.2.2.1 t209 bt201.1 bt201.2.1 bt201.2.2.1 bt201.2.2.2.1 bt201.2.2.2.2.1)) else (ccm_Open.j0 k bt201.2.2.2.2.2.1 bt201.2.2.2.2.2.2 bt201.1 bt201.2.1 bt201.2.2.1 bt201.2.2.2.1 bt201.2.2.2.2.1))
theorem ccm_Open.mono_l : ∀ k, (∀ y0 y1 y2 y3 y4 y5 y6, LeO (ccm_Open.j0 k y0 y1 y2 y3 y4 y5 y6) (ccm_Open.j0 (k + 1) y0 y1 y2 y3 y4 y5 y6)) ∧ (∀ y0 y1 y2 y3 y4 y5 y6 y7, LeO (ccm_Open.j1 k y0 y1 y2 y3 y4 y5 y6 y7) (ccm_Open.j1 (k + 1) y0 y1 y2 y3 y4 y5 y6 y7))
  | 0 => ⟨fun _ _ _ _ _ _ _ r h => by simp [ccm_Open.j0] at h, fun _ _ _ _ _ _ _ _ r h => by simp [ccm_Open.j1] at h⟩
  | k + 1 => by
    obtain ⟨ih0, ih1⟩ := ccm_Open.mono_l k
    refine ⟨?_, ?_⟩
    · intro y0 y1 y2 y3 y4 y5 y6
      unfold ccm_Open.j0
      repeat' first
      | (with_reducible exact ih0 _ _ _ _ _ _ _)
      | (with_reducible exact ih1 _ _ _ _ _ _ _ _)
      | (with_reducible exact ccm_Msg_wrong.mono _ _ _ _ _ _)
      | (with_reducible exact field_Noughts.mono _ _)
      | (with_reducible exact field_Split.mono _ _ _)
      | (with_reducible exact oam_Head_Is.mono _ _ _ _ _ _ _ _ _ _)
      | (with_reducible exact oam_Open.mono _ _)
      | (with_reducible exact LeO.refl _)
      | (with_reducible exact LeO.none _)
      | (with_reducible refine LeO.ite ?_ ?_)
      | (with_reducible refine LeO.bind ?_ (fun _ => ?_))
      | exact ih0 _ _ _ _ _ _ _
      | exact ih1 _ _ _ _ _ _ _ _
      | exact ccm_Msg_wrong.mono _ _ _ _ _ _
      | exact field_Noughts.mono _ _
      | exact field_Split.mono _ _ _
      | exact oam_Head_Is.mono _ _ _ _ _ _ _ _ _ _
      | exact oam_Open.mono _ _
      | exact LeO.none _
      | refine LeO.ite ?_ ?_
      | refine LeO.bind ?_ (fun _ => ?_)
    · intro y0 y1 y2 y3 y4 y5 y6 y7
      unfold ccm_Open.j1
      repeat' first
      | (with_reducible exact ih0 _ _ _ _ _ _ _)
      | (with_reducible exact ih1 _ _ _ _ _ _ _ _)
      | (with_reducible exact ccm_Msg_wrong.mono _ _ _ _ _ _)
      | (with_reducible exact field_Noughts.mono _ _)
      | (with_reducible exact field_Split.mono _ _ _)
      | (with_reducible exact oam_Head_Is.mono _ _ _ _ _ _ _ _ _ _)
      | (with_reducible exact oam_Open.mono _ _)
      | (with_reducible exact LeO.refl _)
      | (with_reducible exact LeO.none _)
      | (with_reducible refine LeO.ite ?_ ?_)
      | (with_reducible refine LeO.bind ?_ (fun _ => ?_))
      | exact ih0 _ _ _ _ _ _ _
      | exact ih1 _ _ _ _ _ _ _ _
      | exact ccm_Msg_wrong.mono _ _ _ _ _ _
      | exact field_Noughts.mono _ _
      | exact field_Split.mono _ _ _
      | exact oam_Head_Is.mono _ _ _ _ _ _ _ _ _ _
      | exact oam_Open.mono _ _
      | exact LeO.none _
      | refine LeO.ite ?_ ?_
      | refine LeO.bind ?_ (fun _ => ?_)
theorem ccm_Open.mono : ∀ a0 a1 k, LeO (ccm_Open.f k a0 a1) (ccm_Open.f (k + 1) a0 a1) := by
  intro a0 a1 k
  obtain ⟨ih0, ih1⟩ := ccm_Open.mono_l k
  unfold ccm_Open.f
  repeat' first
      | (with_reducible exact ih0 _ _ _ _ _ _ _)
      | (with_reducible exact ih1 _ _ _ _ _ _ _ _)
      | (with_reducible exact ccm_Msg_wrong.mono _ _ _ _ _ _)
      | (with_reducible exact field_Noughts.mono _ _)
      | (with_reducible exact field_Split.mono _ _ _)
      | (with_reducible exact oam_Head_Is.mono _ _ _ _ _ _ _ _ _ _)
      | (with_reducible exact oam_Open.mono _ _)
      | (with_reducible exact LeO.refl _)
      | (with_reducible exact LeO.none _)
      | (with_reducible refine LeO.ite ?_ ?_)
      | (with_reducible refine LeO.bind ?_ (fun _ => ?_))
      | exact ih0 _ _ _ _ _ _ _
      | exact ih1 _ _ _ _ _ _ _ _
      | exact ccm_Msg_wrong.mono _ _ _ _ _ _
      | exact field_Noughts.mono _ _
      | exact field_Split.mono _ _ _
      | exact oam_Head_Is.mono _ _ _ _ _ _ _ _ _ _
      | exact oam_Open.mono _ _
      | exact LeO.none _
      | refine LeO.ite ?_ ?_
      | refine LeO.bind ?_ (fun _ => ?_)
def ccm_Open.T11 : Bool × List (List Nat × List Nat) := (true, [([], []), ([0], [0]), ([1], [1]), ([2], [2]), ([], []), ([4], [4]), ([5], [5]), ([], []), ([7], [7]), ([8], [8]), ([9], [9]), ([], []), ([11], [11]), ([12], [12]), ([13], [13]), ([], []), ([15], [15]), ([3, 6, 10, 14, 16], [3, 6, 10, 14, 16]), ([], []), ([18, 17, 0, 1, 2, 3, 4, 5, 6, 7, 8, 9, 10, 11, 12, 13, 14, 15, 16, 17, 18], [17, 18])])
def ccm_Open.B11 : List Nat := [0, 1, 3, 7, 0, 16, 48, 0, 128, 384, 896, 0, 2048, 6144, 14336, 0, 32768, 131071, 0, 524287]
theorem ccm_Open.tab11 : rtab .any (opsOf Try.f29 11) = ccm_Open.T11 := by kernel_rfl
theorem ccm_Open.bits11 : waitsOk ccm_Open.T11.2 ccm_Open.B11 = true := by kernel_rfl
set_option maxHeartbeats 8000000 in
set_option maxRecDepth 100000 in
theorem ccm_Open.calls (k : Nat) (a0 : ByteArray) (a1 : Int) (r1 : Bool) (r2 : Int) (r3 : Int) (r4 : Int) (r5 : ByteArray) (r6 : Int) (w : World) (h : ccm_Open.f k a0 a1 = some (r1, r2, r3, r4, r5, r6)) :
    Calls Try.prog 29 #[.string a0, .int .u8 a1] w fun e w' => e = .returned (.tuple #[.agg #[.bool r1, .int .u8 r2, .int .u32 r3, .int .u16 r4, .string r5], .int .i64 r6]) ∧ Below w.heap.size w w' := by
  have hu62 := Try.underlying62
  have hu84 := Try.underlying84
  have HB := Aside0.mk (Below.refl w.heap.size w)
  have H : ((oam_Open.f k a0).bind fun bt201 => (if bt201.2.2.2.2.2.2 = 0 then ((oam_Head_Is.f k bt201.1 bt201.2.1 bt201.2.2.1 bt201.2.2.2.1 bt201.2.2.2.2.1 a1 0 1 70).bind fun t209 => (ccm_Open.j0 k bt201.2.2.2.2.2.1 t209 bt201.1 bt201.2.1 bt201.2.2.1 bt201.2.2.2.1 bt201.2.2.2.2.1)) else (ccm_Open.j0 k bt201.2.2.2.2.2.1 bt201.2.2.2.2.2.2 bt201.1 bt201.2.1 bt201.2.2.1 bt201.2.2.2.1 bt201.2.2.2.2.1))) = some (r1, r2, r3, r4, r5, r6) := h
  clear h
  replace H := Option.bind_eq_some_iff.mp H
  obtain ⟨⟨t201, t202, t203, t204, t205, t206, t207⟩, A30, H⟩ := H
  replace H : (if t207 = 0 then ((oam_Head_Is.f k t201 t202 t203 t204 t205 a1 0 1 70).bind fun t209 => (ccm_Open.j0 k t206 t209 t201 t202 t203 t204 t205)) else (ccm_Open.j0 k t206 t207 t201 t202 t203 t204 t205)) = some (r1, r2, r3, r4, r5, r6) := H
  have A3 := Aside0.mk A30
  clear A30
  have HC4 := Aside0.mk H
  clear H
  go_enter Try.func29, Try.ntmps29
  go_upto_if 20 with (first | ((with_reducible refine gate_dst (N := 4) rfl ?_); refine box_event ?hg (N := 4) ?hd (cs := #[.bool false, .int .u8 0, .int .u32 0, .int .u16 0, .string (⟨#[]⟩ : ByteArray)]) (t := 62) ?hr ?_; (case hd => rfl); (case hg => rfl); (case hr => first | (go_simp; done) | (go_simp; rfl)); intro gb200 hg w5 hbox hb; have n0_ := Aside0.mk (below_step (by repeat (first | (with_reducible first | exact HB.out | apply below_alloc | apply pw_below_drewN | apply below_drew1) | exact HB.out)) hb); have n1_ := Aside0.mk (hbox); have n2_ := Aside0.mk ((by rw [hg]; exact (below_size (by repeat (first | (with_reducible first | exact HB.out | apply below_alloc | apply pw_below_drewN | apply below_drew1) | exact HB.out))) : w.heap.size ≤ gb200)); have n3_ := Aside0.mk ((by rw [hg]; exact (below_size (by repeat (first | (with_reducible first | exact HB.out | apply below_alloc | apply pw_below_drewN | apply below_drew1) | exact HB.out))) : w.heap.size ≤ gb200)); clear HB; have HB := n0_; have BK200 := n1_; have GW200 := n2_; have GE200 := n3_; clear n0_ n1_ n2_ n3_; clear hb hbox hg) | ((with_reducible refine gate_callee (f := 43) rfl ?_); refine goesL_ (some 15) rfl rfl Try.func43 (by kernel_rfl) rfl #[.string a0] rfl (by (try simp only [List.map_toArray, List.map_cons, List.map_nil]); first | done | rfl | (simp only [List.length_drop, List.length_take]; rfl)) ?_; (with_reducible refine (oam_Open.calls k a0 t201 t202 t203 t204 t205 t206 t207 _ A3.out).mono ?_); rintro e w6 ⟨rfl, hb⟩; refine ⟨_, rfl, ?_⟩; have n0_ := Aside0.mk (blk_below (g := gb200) (o := .cells #[.bool false, .int .u8 0, .int .u32 0, .int .u16 0, .string (⟨#[]⟩ : ByteArray)] 62 (0, 0)) (by (with_reducible repeat (first | refine blk_drewN ?_ _ | refine blk_drew ?_ | refine blk_alloc ?_ _)); exact BK200.out) hb); have n1_ := Aside0.mk (below_step (by repeat (first | (with_reducible first | exact HB.out | apply below_alloc | apply pw_below_drewN | apply below_drew1 | refine below_set ?_ GE200.out) | exact HB.out)) hb); clear BK200; clear HB; have BK200 := n0_; have HB := n1_; clear n0_ n1_; (try clear hb); (try clear hb2); (try clear hk); (try clear hi)) | ((with_reducible refine gate_dst (N := 6) rfl ?_); refine box_event ?hg (N := 6) ?hd (cs := #[.int .u8 0, .int .u8 0, .int .u8 0, .int .u8 0, .int .u8 0]) (t := 84) ?hr ?_; (case hd => rfl); (case hg => rfl); (case hr => first | (go_simp; done) | (go_simp; rfl)); intro gb208 hg w7 hbox hb; have n0_ := Aside0.mk (blk_below (g := gb200) (o := .cells #[.bool false, .int .u8 0, .int .u32 0, .int .u16 0, .string (⟨#[]⟩ : ByteArray)] 62 (0, 0)) (by (with_reducible repeat (first | refine blk_drewN ?_ _ | refine blk_drew ?_ | refine blk_alloc ?_ _)); exact BK200.out) hb); have n1_ := Aside0.mk (below_step (by repeat (first | (with_reducible first | exact HB.out | apply below_alloc | apply pw_below_drewN | apply below_drew1 | refine below_set ?_ GE200.out) | exact HB.out)) hb); have n2_ := Aside0.mk (hbox); have n3_ := Aside0.mk ((by rw [hg]; exact (below_size (by repeat (first | (with_reducible first | exact HB.out | apply below_alloc | apply pw_below_drewN | apply below_drew1 | refine below_set ?_ GE200.out) | exact HB.out))) : w.heap.size ≤ gb208)); have n4_ := Aside0.mk ((by rw [hg]; exact (below_size (by repeat (first | (with_reducible first | exact HB.out | apply below_alloc | apply pw_below_drewN | apply below_drew1 | refine below_set ?_ GE200.out) | exact HB.out))) : w.heap.size ≤ gb208)); have n5_ := Aside0.mk ((by rw [hg]; exact Nat.ne_of_lt (blk_lt (g := gb200) (o := .cells #[.bool false, .int .u8 0, .int .u32 0, .int .u16 0, .string (⟨#[]⟩ : ByteArray)] 62 (0, 0)) (by (with_reducible repeat (first | refine blk_drewN ?_ _ | refine blk_drew ?_ | refine blk_alloc ?_ _)); exact BK200.out)) : gb200 ≠ gb208)); have n6_ := Aside0.mk ((by rw [hg]; exact Nat.ne_of_gt (blk_lt (g := gb200) (o := .cells #[.bool false, .int .u8 0, .int .u32 0, .int .u16 0, .string (⟨#[]⟩ : ByteArray)] 62 (0, 0)) (by (with_reducible repeat (first | refine blk_drewN ?_ _ | refine blk_drew ?_ | refine blk_alloc ?_ _)); exact BK200.out)) : gb208 ≠ gb200)); clear BK200; clear HB; have BK200 := n0_; have HB := n1_; have BK208 := n2_; have GW208 := n3_; have GE208 := n4_; have NB200_208 := n5_; have NB208_200 := n6_; clear n0_ n1_ n2_ n3_ n4_ n5_ n6_; clear hb hbox hg; have hnb8 := NB208_200.out; have hnc8 := NB200_208.out; have hcz9_0 : w7.cell? ⟨gb208, 0, none⟩ = some (.int .u8 0) := (blk_cell BK208.out 0).trans rfl; have hcz9_1 : w7.cell? ⟨gb208, 1, none⟩ = some (.int .u8 0) := (blk_cell BK208.out 1).trans rfl; have hcz9_2 : w7.cell? ⟨gb208, 2, none⟩ = some (.int .u8 0) := (blk_cell BK208.out 2).trans rfl; have hcz9_3 : w7.cell? ⟨gb208, 3, none⟩ = some (.int .u8 0) := (blk_cell BK208.out 3).trans rfl; have hcz9_4 : w7.cell? ⟨gb208, 4, none⟩ = some (.int .u8 0) := (blk_cell BK208.out 4).trans rfl; have hfz9_0 := blk_frozen BK208.out 0; have hfz9_1 := blk_frozen BK208.out 1; have hfz9_2 := blk_frozen BK208.out 2; have hfz9_3 := blk_frozen BK208.out 3; have hfz9_4 := blk_frozen BK208.out 4))
  (try simp only [Act.put, List.setIfInBounds_toArray, List.set_cons_zero, List.set_cons_succ])
  go_cut [8] (fun v8 wc => ∃ (kq : Nat) (x8_3 : Int), v8 = .int .i64 x8_3 ∧ Aside0 (ccm_Open.j0 kq t206 x8_3 t201 t202 t203 t204 t205 = some (r1, r2, r3, r4, r5, r6)) ∧ Aside0 (kq ≤ k) ∧ Aside0 (wc.heap[gb200]? = some (.cells #[.bool false, .int .u8 0, .int .u32 0, .int .u16 0, .string (⟨#[]⟩ : ByteArray)] 62 (0, 0))) ∧ Aside0 (wc.heap[gb208]? = some (.cells #[.int .u8 t201, .int .u8 t202, .int .u8 t203, .int .u8 t204, .int .u8 t205] 84 (0, 0))) ∧ Aside0 (Below w.heap.size w wc))
  case first =>
    have H := HC4.out
    clear HC4
    by_cases c10 : t207 = 0
    · rw [if_pos c10] at H
      have c10b0 : (t207 == 0) = true := beq_iff_eq.mpr c10
      have c10b1 : (t207 != 0) = false := bne_eq_false_iff_eq.mpr c10
      clear c10
      (first | rw [c10b0] | (simp only [i64_w, i32_w]; rw [c10b0]) | skip)
      replace H := Option.bind_eq_some_iff.mp H
      obtain ⟨t209, A110, H⟩ := H
      replace H : (ccm_Open.j0 k t206 t209 t201 t202 t203 t204 t205) = some (r1, r2, r3, r4, r5, r6) := H
      have A11 := Aside0.mk A110
      clear A110
      have H' := Aside0.mk H
      clear H
      have hnb12 := NB208_200.out
      have hnc12 := NB200_208.out
      have hcz13_0 : w7.cell? ⟨gb208, 0, none⟩ = some (.int .u8 0) := (blk_cell BK208.out 0).trans rfl
      have hcz13_1 : w7.cell? ⟨gb208, 1, none⟩ = some (.int .u8 0) := (blk_cell BK208.out 1).trans rfl
      have hcz13_2 : w7.cell? ⟨gb208, 2, none⟩ = some (.int .u8 0) := (blk_cell BK208.out 2).trans rfl
      have hcz13_3 : w7.cell? ⟨gb208, 3, none⟩ = some (.int .u8 0) := (blk_cell BK208.out 3).trans rfl
      have hcz13_4 : w7.cell? ⟨gb208, 4, none⟩ = some (.int .u8 0) := (blk_cell BK208.out 4).trans rfl
      have hfz13_0 := blk_frozen BK208.out 0
      have hfz13_1 := blk_frozen BK208.out 1
      have hfz13_2 := blk_frozen BK208.out 2
      have hfz13_3 := blk_frozen BK208.out 3
      have hfz13_4 := blk_frozen BK208.out 4
      go_wp2_with (first | ((with_reducible refine gate_callee (f := 44) rfl ?_); refine goesL_ (some 23) rfl rfl Try.func44 (by kernel_rfl) rfl #[.agg #[.int .u8 t201, .int .u8 t202, .int .u8 t203, .int .u8 t204, .int .u8 t205], .int .u8 a1, .int .u8 0, .int .u8 1, .int .u8 70] rfl (by (try simp only [List.map_toArray, List.map_cons, List.map_nil]); first | done | rfl | (simp only [List.length_drop, List.length_take]; rfl)) ?_; (with_reducible refine (oam_Head_Is.calls k t201 t202 t203 t204 t205 a1 0 1 70 t209 _ A11.out).mono ?_); rintro e w14 ⟨rfl, hb⟩; refine ⟨_, rfl, ?_⟩; have n0_ := Aside0.mk (blk_below (g := gb200) (o := .cells #[.bool false, .int .u8 0, .int .u32 0, .int .u16 0, .string (⟨#[]⟩ : ByteArray)] 62 (0, 0)) (by (with_reducible repeat (first | refine blk_drewN ?_ _ | refine blk_drew ?_ | refine blk_alloc ?_ _)); refine blk_far ?_ NB200_208.out _; (with_reducible repeat (first | refine blk_drewN ?_ _ | refine blk_drew ?_ | refine blk_alloc ?_ _)); refine blk_far ?_ NB200_208.out _; (with_reducible repeat (first | refine blk_drewN ?_ _ | refine blk_drew ?_ | refine blk_alloc ?_ _)); refine blk_far ?_ NB200_208.out _; (with_reducible repeat (first | refine blk_drewN ?_ _ | refine blk_drew ?_ | refine blk_alloc ?_ _)); refine blk_far ?_ NB200_208.out _; (with_reducible repeat (first | refine blk_drewN ?_ _ | refine blk_drew ?_ | refine blk_alloc ?_ _)); refine blk_far ?_ NB200_208.out _; (with_reducible repeat (first | refine blk_drewN ?_ _ | refine blk_drew ?_ | refine blk_alloc ?_ _)); exact BK200.out) hb); have n1_ := Aside0.mk (blk_below (g := gb208) (o := .cells #[.int .u8 t201, .int .u8 t202, .int .u8 t203, .int .u8 t204, .int .u8 t205] 84 (0, 0)) (by (with_reducible repeat (first | refine blk_drewN ?_ _ | refine blk_drew ?_ | refine blk_alloc ?_ _)); refine blk_put (cs := #[.int .u8 t201, .int .u8 t202, .int .u8 t203, .int .u8 t204, .int .u8 0]) ?_ 4 _ rfl; (with_reducible repeat (first | refine blk_drewN ?_ _ | refine blk_drew ?_ | refine blk_alloc ?_ _)); refine blk_put (cs := #[.int .u8 t201, .int .u8 t202, .int .u8 t203, .int .u8 0, .int .u8 0]) ?_ 3 _ rfl; (with_reducible repeat (first | refine blk_drewN ?_ _ | refine blk_drew ?_ | refine blk_alloc ?_ _)); refine blk_put (cs := #[.int .u8 t201, .int .u8 t202, .int .u8 0, .int .u8 0, .int .u8 0]) ?_ 2 _ rfl; (with_reducible repeat (first | refine blk_drewN ?_ _ | refine blk_drew ?_ | refine blk_alloc ?_ _)); refine blk_put (cs := #[.int .u8 t201, .int .u8 0, .int .u8 0, .int .u8 0, .int .u8 0]) ?_ 1 _ rfl; (with_reducible repeat (first | refine blk_drewN ?_ _ | refine blk_drew ?_ | refine blk_alloc ?_ _)); refine blk_put (cs := #[.int .u8 0, .int .u8 0, .int .u8 0, .int .u8 0, .int .u8 0]) ?_ 0 _ rfl; (with_reducible repeat (first | refine blk_drewN ?_ _ | refine blk_drew ?_ | refine blk_alloc ?_ _)); exact BK208.out) hb); have n2_ := Aside0.mk (below_step (by repeat (first | (with_reducible first | exact HB.out | apply below_alloc | apply pw_below_drewN | apply below_drew1 | refine below_set ?_ GE200.out | refine below_set ?_ GE208.out) | exact HB.out)) hb); clear BK200; clear BK208; clear HB; have BK200 := n0_; have BK208 := n1_; have HB := n2_; clear n0_ n1_ n2_; (try clear hb); (try clear hb2); (try clear hk); (try clear hi)))
      go_meet
      case rel => exact ⟨_, (t209), (by first | rfl | (simp; done) | (simp [*]; done)), H', ⟨by first | omega | exact Nat.le_refl _⟩, ⟨by (with_reducible repeat (first | refine blk_drewN ?_ _ | refine blk_drew ?_ | refine blk_alloc ?_ _)); exact BK200.out⟩, ⟨by (with_reducible repeat (first | refine blk_drewN ?_ _ | refine blk_drew ?_ | refine blk_alloc ?_ _)); exact BK208.out⟩, ⟨by repeat (first | (with_reducible first | exact HB.out | apply below_alloc | apply pw_below_drewN | apply below_drew1 | refine below_set ?_ GE200.out | refine below_set ?_ GE208.out) | exact HB.out)⟩⟩
    · rw [if_neg c10] at H
      have c10b0 : (t207 == 0) = false := beq_eq_false_iff_ne.mpr c10
      have c10b1 : (t207 != 0) = true := bne_iff_ne.mpr c10
      (first | rw [c10b0] | (simp only [i64_w, i32_w]; rw [c10b0]) | skip)
      have H' := Aside0.mk H
      clear H
      go_wp2
      go_meet
      case rel => exact ⟨_, (t207), (by first | rfl | (simp; done) | (simp [*]; done)), H', ⟨by first | omega | exact Nat.le_refl _⟩, ⟨by (with_reducible repeat (first | refine blk_drewN ?_ _ | refine blk_drew ?_ | refine blk_alloc ?_ _)); refine blk_far ?_ NB200_208.out _; (with_reducible repeat (first | refine blk_drewN ?_ _ | refine blk_drew ?_ | refine blk_alloc ?_ _)); refine blk_far ?_ NB200_208.out _; (with_reducible repeat (first | refine blk_drewN ?_ _ | refine blk_drew ?_ | refine blk_alloc ?_ _)); refine blk_far ?_ NB200_208.out _; (with_reducible repeat (first | refine blk_drewN ?_ _ | refine blk_drew ?_ | refine blk_alloc ?_ _)); refine blk_far ?_ NB200_208.out _; (with_reducible repeat (first | refine blk_drewN ?_ _ | refine blk_drew ?_ | refine blk_alloc ?_ _)); refine blk_far ?_ NB200_208.out _; (with_reducible repeat (first | refine blk_drewN ?_ _ | refine blk_drew ?_ | refine blk_alloc ?_ _)); exact BK200.out⟩, ⟨by (with_reducible repeat (first | refine blk_drewN ?_ _ | refine blk_drew ?_ | refine blk_alloc ?_ _)); refine blk_put (cs := #[.int .u8 t201, .int .u8 t202, .int .u8 t203, .int .u8 t204, .int .u8 0]) ?_ 4 _ rfl; (with_reducible repeat (first | refine blk_drewN ?_ _ | refine blk_drew ?_ | refine blk_alloc ?_ _)); refine blk_put (cs := #[.int .u8 t201, .int .u8 t202, .int .u8 t203, .int .u8 0, .int .u8 0]) ?_ 3 _ rfl; (with_reducible repeat (first | refine blk_drewN ?_ _ | refine blk_drew ?_ | refine blk_alloc ?_ _)); refine blk_put (cs := #[.int .u8 t201, .int .u8 t202, .int .u8 0, .int .u8 0, .int .u8 0]) ?_ 2 _ rfl; (with_reducible repeat (first | refine blk_drewN ?_ _ | refine blk_drew ?_ | refine blk_alloc ?_ _)); refine blk_put (cs := #[.int .u8 t201, .int .u8 0, .int .u8 0, .int .u8 0, .int .u8 0]) ?_ 1 _ rfl; (with_reducible repeat (first | refine blk_drewN ?_ _ | refine blk_drew ?_ | refine blk_alloc ?_ _)); refine blk_put (cs := #[.int .u8 0, .int .u8 0, .int .u8 0, .int .u8 0, .int .u8 0]) ?_ 0 _ rfl; (with_reducible repeat (first | refine blk_drewN ?_ _ | refine blk_drew ?_ | refine blk_alloc ?_ _)); exact BK208.out⟩, ⟨by repeat (first | (with_reducible first | exact HB.out | apply below_alloc | apply pw_below_drewN | apply below_drew1 | refine below_set ?_ GE200.out | refine below_set ?_ GE208.out) | exact HB.out)⟩⟩
  case rest =>
    clear HC4
    try clear c1
    try clear c2
    try clear p2
    try clear c4
    try clear c8
    try clear c10
    try clear c10b0
    try clear c10b1
    try clear c12
    try clear hcz13_0
    try clear hcz13_1
    try clear hcz13_2
    try clear hcz13_3
    try clear hcz13_4
    try clear hcz9_0
    try clear hcz9_1
    try clear hcz9_2
    try clear hcz9_3
    try clear hcz9_4
    try clear hfz13_0
    try clear hfz13_1
    try clear hfz13_2
    try clear hfz13_3
    try clear hfz13_4
    try clear hfz9_0
    try clear hfz9_1
    try clear hfz9_2
    try clear hfz9_3
    try clear hfz9_4
    obtain ⟨kq, x8_3, rfl, HA, HJ3, BK200, BK208, HB⟩ := hcut
    cases kq with
    | zero => exact absurd HA.out (by simp [ccm_Open.j0])
    | succ kj3 =>
      have H := HA.out
      clear HA
      simp only [ccm_Open.j0] at H
      by_cases c15 : x8_3 = 0
      · rw [if_pos c15] at H
        have c15b0 : (x8_3 == 0) = true := beq_iff_eq.mpr c15
        have c15b1 : (x8_3 != 0) = false := bne_eq_false_iff_eq.mpr c15
        clear c15
        obtain ⟨y210, hy210⟩ : ∃ y_ : List Int, y_ = (([32, 3, 13] : List Int)) := ⟨_, rfl⟩
        replace H : ((field_Split.f kj3 t206 y210).bind fun bt213 => (if bt213.2.2 = 0 then (if 1 < (bt213.1.length : Int) then (if (rd bt213.1 1) = 0 then (if (Go.bits .and .u8 t204 120) = 0 then (if 48 ≤ (bt213.2.1.size : Int) then ((field_Noughts.f kj3 (bt213.2.1.extract 48 bt213.2.1.size)).bind fun t219 => (ccm_Open.j1 kj3 bt213.1 bt213.2.1 (!t219) t201 t202 t203 t204 t205)) else (none)) else (ccm_Open.j1 kj3 bt213.1 bt213.2.1 true t201 t202 t203 t204 t205)) else (ccm_Open.j1 kj3 bt213.1 bt213.2.1 true t201 t202 t203 t204 t205)) else (none)) else (some (false, 0, 0, 0, (⟨#[]⟩ : ByteArray), bt213.2.2)))) = some (r1, r2, r3, r4, r5, r6) := by first | (rw [hy210]; with_reducible exact H) | (have H2_ := (Option.bind_some _ _).symm.trans H; rw [hy210]; with_reducible exact H2_) | (have H2_ := (Option.bind_some _ _).symm.trans H; with_reducible exact H2_) | with_reducible exact H | (rw [hy210]; exact H) | exact H
        have Ny210 := Aside0.mk hy210
        clear hy210
        replace H := Option.bind_eq_some_iff.mp H
        obtain ⟨⟨t213, t214, t215⟩, A160, H⟩ := H
        replace H : (if t215 = 0 then (if 1 < (t213.length : Int) then (if (rd t213 1) = 0 then (if (Go.bits .and .u8 t204 120) = 0 then (if 48 ≤ (t214.size : Int) then ((field_Noughts.f kj3 (t214.extract 48 t214.size)).bind fun t219 => (ccm_Open.j1 kj3 t213 t214 (!t219) t201 t202 t203 t204 t205)) else (none)) else (ccm_Open.j1 kj3 t213 t214 true t201 t202 t203 t204 t205)) else (ccm_Open.j1 kj3 t213 t214 true t201 t202 t203 t204 t205)) else (none)) else (some (false, 0, 0, 0, (⟨#[]⟩ : ByteArray), t215))) = some (r1, r2, r3, r4, r5, r6) := H
        have A16 := Aside0.mk A160
        clear A160
        by_cases c17 : t215 = 0
        · rw [if_pos c17] at H
          have c17b0 : (t215 == 0) = true := beq_iff_eq.mpr c17
          have c17b1 : (t215 != 0) = false := bne_eq_false_iff_eq.mpr c17
          clear c17
          have HC18 := Aside0.mk H
          clear H
          go_upto_region 9 with (first | ((with_reducible refine gate_dst (N := 30) rfl ?_); refine Kd.R_lit (Kd.int .i64) _ 3 ?hg (N := 30) ?hd (xs := ([32, 3, 13] : List Int)) (inner := [.int .i64 32, .int .i64 3, .int .i64 13]) (ok := fun _ => True) (okp := fun _ => True) ?hr ?hp (fun _ hk => hk) trivial (Below.refl _ _) (Nat.le_refl _) (by simp) ?_; (case hd => rfl); (case hg => rfl); (case hr => first | (go_simp; done) | (go_simp; rfl)); (case hp => exact (Reps.one (show Kd.M (Kd.int .i64) _ _ _ 32 [.int .i64 32] from rfl) (Reps.one (show Kd.M (Kd.int .i64) _ _ _ 3 [.int .i64 3] from rfl) (Reps.one (show Kd.M (Kd.int .i64) _ _ _ 13 [.int .i64 13] from rfl) (Reps.none _ _))))); intro v211 w19 ho20 hb hg_ hnew_; clear hg_ hnew_; (first | rw [← Ny210.out] at ho20 | (simp only [Int.reduceToNat] at ho20; rw [← Ny210.out] at ho20)); have n0_ := Aside0.mk (Kd.R_lower ho20 (below_size (by repeat (first | (with_reducible first | exact HB.out | apply below_alloc | apply pw_below_drewN | apply below_drew1 | refine below_set ?_ GE200.out | refine below_set ?_ GE208.out) | exact HB.out)))); have n1_ := Aside0.mk (blk_below (g := gb200) (o := .cells #[.bool false, .int .u8 0, .int .u32 0, .int .u16 0, .string (⟨#[]⟩ : ByteArray)] 62 (0, 0)) (by (with_reducible repeat (first | refine blk_drewN ?_ _ | refine blk_drew ?_ | refine blk_alloc ?_ _)); exact BK200.out) hb); have n2_ := Aside0.mk (blk_below (g := gb208) (o := .cells #[.int .u8 t201, .int .u8 t202, .int .u8 t203, .int .u8 t204, .int .u8 t205] 84 (0, 0)) (by (with_reducible repeat (first | refine blk_drewN ?_ _ | refine blk_drew ?_ | refine blk_alloc ?_ _)); exact BK208.out) hb); have n3_ := Aside0.mk (below_step (by repeat (first | (with_reducible first | exact HB.out | apply below_alloc | apply pw_below_drewN | apply below_drew1 | refine below_set ?_ GE200.out | refine below_set ?_ GE208.out) | exact HB.out)) hb); clear BK200; clear BK208; clear HB; have HO212 := n0_; have BK200 := n1_; have BK208 := n2_; have HB := n3_; clear n0_ n1_ n2_ n3_; clear hb ho20; obtain ⟨Ao21, co21, eo21⟩ := Kd.R_slice HO212.out; subst eo21) | ((with_reducible refine gate_callee (f := 45) rfl ?_); refine goesL_ (some 31) rfl rfl Try.func45 (by kernel_rfl) rfl #[.string t206, .slice Ao21 y210.length co21] rfl (by (try simp only [List.map_toArray, List.map_cons, List.map_nil]); first | done | rfl | (simp only [List.length_drop, List.length_take]; rfl)) ?_; (with_reducible refine (field_Split.calls kj3 t206 _ _ y210 t213 t214 t215 _ ?side1 ?side2 A16.out).mono ?_); (case side1 => repeat (first | exact (Kd.R_reads' HO212.out).2.2 | (with_reducible refine Kd.C_alloc ?_ _) | (with_reducible refine Kd.C_drewN ?_ _) | (with_reducible refine Kd.C_drew ?_))); (case side2 => exact (Kd.R_reads' HO212.out).2.1); rintro e w22 ⟨v216, rfl, ho0, hb⟩; refine ⟨_, rfl, ?_⟩; have n0_ := Aside0.mk (Kd.R_below (by (with_reducible repeat (first | apply Kd.R_alloc | apply Kd.R_drewN | apply Kd.R_drew)); exact HO212.out) hb); have n1_ := Aside0.mk (Kd.R_lower ho0 (below_size (by repeat (first | (with_reducible first | exact HB.out | apply below_alloc | apply pw_below_drewN | apply below_drew1 | refine below_set ?_ GE200.out | refine below_set ?_ GE208.out) | exact HB.out)))); have n2_ := Aside0.mk (blk_below (g := gb200) (o := .cells #[.bool false, .int .u8 0, .int .u32 0, .int .u16 0, .string (⟨#[]⟩ : ByteArray)] 62 (0, 0)) (by (with_reducible repeat (first | refine blk_drewN ?_ _ | refine blk_drew ?_ | refine blk_alloc ?_ _)); exact BK200.out) hb); have n3_ := Aside0.mk (blk_below (g := gb208) (o := .cells #[.int .u8 t201, .int .u8 t202, .int .u8 t203, .int .u8 t204, .int .u8 t205] 84 (0, 0)) (by (with_reducible repeat (first | refine blk_drewN ?_ _ | refine blk_drew ?_ | refine blk_alloc ?_ _)); exact BK208.out) hb); have n4_ := Aside0.mk (below_step (by repeat (first | (with_reducible first | exact HB.out | apply below_alloc | apply pw_below_drewN | apply below_drew1 | refine below_set ?_ GE200.out | refine below_set ?_ GE208.out) | exact HB.out)) hb); clear HO212; clear BK200; clear BK208; clear HB; have HO212 := n0_; have HO217 := n1_; have BK200 := n2_; have BK208 := n3_; have HB := n4_; clear n0_ n1_ n2_ n3_ n4_; (try clear hb); (try clear hb2); (try clear hk); (try clear hi); (try clear ho0)))
          (try simp only [Act.put, List.setIfInBounds_toArray, List.set_cons_zero, List.set_cons_succ])
          go_cut [40] (fun v40 wc => ∃ (kq : Nat) (x40_17 : Bool), v40 = .bool x40_17 ∧ Aside0 (ccm_Open.j1 kq t213 t214 x40_17 t201 t202 t203 t204 t205 = some (r1, r2, r3, r4, r5, r6)) ∧ Aside0 (kq ≤ kj3) ∧ Aside0 (Kd.R (Kd.int .u64) 33 wc w.heap.size (fun _ => True) v216 t213) ∧ Aside0 (wc.heap[gb200]? = some (.cells #[.bool false, .int .u8 0, .int .u32 0, .int .u16 0, .string (⟨#[]⟩ : ByteArray)] 62 (0, 0))) ∧ Aside0 (wc.heap[gb208]? = some (.cells #[.int .u8 t201, .int .u8 t202, .int .u8 t203, .int .u8 t204, .int .u8 t205] 84 (0, 0))) ∧ Aside0 (Below w.heap.size w wc))
          case first =>
            have H := HC18.out
            clear HC18
            by_cases c23 : 1 < (t213.length : Int)
            · rw [if_pos c23] at H
              have c23b0 : decide (1 < (t213.length : Int)) = true := decide_eq_true c23
              have c23b1 : decide (1 < t213.length) = true := decide_eq_true (by omega)
              clear c23
              (first | rw [c23b0] | (simp only [i64_w, i32_w]; rw [c23b0]) | skip)
              by_cases c24 : (rd t213 1) = 0
              · rw [if_pos c24] at H
                have c24b0 : ((rd t213 1) == 0) = true := beq_iff_eq.mpr c24
                have c24b1 : ((rd t213 1) != 0) = false := bne_eq_false_iff_eq.mpr c24
                clear c24
                by_cases c25 : (Go.bits .and .u8 t204 120) = 0
                · rw [if_pos c25] at H
                  have c25b0 : ((Go.bits .and .u8 t204 120) == 0) = true := beq_iff_eq.mpr c25
                  have c25b1 : ((Go.bits .and .u8 t204 120) != 0) = false := bne_eq_false_iff_eq.mpr c25
                  clear c25
                  by_cases c26 : 48 ≤ (t214.size : Int)
                  · rw [if_pos c26] at H
                    have c26b0 := eq_true c26
                    have c26b1 : decide (48 ≤ (t214.size : Int)) = true := decide_eq_true c26
                    clear c26
                    replace H := Option.bind_eq_some_iff.mp H
                    obtain ⟨t219, A270, H⟩ := H
                    replace H : (ccm_Open.j1 kj3 t213 t214 (!t219) t201 t202 t203 t204 t205) = some (r1, r2, r3, r4, r5, r6) := H
                    have A27 := Aside0.mk A270
                    clear A270
                    have H' := Aside0.mk H
                    clear H
                    obtain ⟨Ao28, co28, eo28⟩ := Kd.R_slice HO217.out
                    subst eo28
                    have p218 : 0 ≤ (1 : Int) := (by omega)
                    have q218 : 1 < (t213.length : Int) := of_decide_eq_true (by first | (with_reducible assumption) | assumption)
                    obtain ⟨ad218, e218, hx218_0⟩ := Kd.at_int (Kd.R_reads' HO217.out).2.2 1 p218 q218
                    cases e218
                    (try simp only [show (1 : Int).toNat = 1 from rfl, Nat.reduceMul, Nat.reduceEqDiff, Go.Addr.add, ↓reduceIte] at hx218_0)
                    have qi218 : (1 < t213.length) = True := eq_true (by omega)
                    (try rw [show ((1 : Int)).toNat = 1 from rfl] at hx218_0)
                    replace p218 := eq_true p218
                    replace q218 := eq_true q218
                    have hnb29 := NB208_200.out
                    have hnc29 := NB200_208.out
                    have hcz30_0 : w22.cell? ⟨gb208, 0, none⟩ = some (.int .u8 t201) := (blk_cell BK208.out 0).trans rfl
                    have hcz30_1 : w22.cell? ⟨gb208, 1, none⟩ = some (.int .u8 t202) := (blk_cell BK208.out 1).trans rfl
                    have hcz30_2 : w22.cell? ⟨gb208, 2, none⟩ = some (.int .u8 t203) := (blk_cell BK208.out 2).trans rfl
                    have hcz30_3 : w22.cell? ⟨gb208, 3, none⟩ = some (.int .u8 t204) := (blk_cell BK208.out 3).trans rfl
                    have hcz30_4 : w22.cell? ⟨gb208, 4, none⟩ = some (.int .u8 t205) := (blk_cell BK208.out 4).trans rfl
                    have hfz30_0 := blk_frozen BK208.out 0
                    have hfz30_1 := blk_frozen BK208.out 1
                    have hfz30_2 := blk_frozen BK208.out 2
                    have hfz30_3 := blk_frozen BK208.out 3
                    have hfz30_4 := blk_frozen BK208.out 4
                    go_wp2_with (first | (go_at_call 46; (with_reducible refine (field_Noughts.calls kj3 (t214.extract 48 t214.size) t219 _ A27.out).mono ?_); rintro e w' ⟨rfl, ⟨nd, rfl⟩⟩))
                    go_meet
                    case rel => exact ⟨_, (!t219), (by first | rfl | (simp; done) | (simp [*]; done)), H', ⟨by have := HJ3.out; first | omega | exact Nat.le_refl _⟩, ⟨by (with_reducible repeat (first | apply Kd.R_alloc | apply Kd.R_drewN | apply Kd.R_drew)); exact HO217.out⟩, ⟨by (with_reducible repeat (first | refine blk_drewN ?_ _ | refine blk_drew ?_ | refine blk_alloc ?_ _)); exact BK200.out⟩, ⟨by (with_reducible repeat (first | refine blk_drewN ?_ _ | refine blk_drew ?_ | refine blk_alloc ?_ _)); exact BK208.out⟩, ⟨by repeat (first | (with_reducible first | exact HB.out | apply below_alloc | apply pw_below_drewN | apply below_drew1 | refine below_set ?_ GE200.out | refine below_set ?_ GE208.out) | exact HB.out)⟩⟩
                  · rw [if_neg c26] at H
                    exact absurd H (by simp)
                · rw [if_neg c25] at H
                  have c25b0 : ((Go.bits .and .u8 t204 120) == 0) = false := beq_eq_false_iff_ne.mpr c25
                  have c25b1 : ((Go.bits .and .u8 t204 120) != 0) = true := bne_iff_ne.mpr c25
                  have H' := Aside0.mk H
                  clear H
                  obtain ⟨Ao31, co31, eo31⟩ := Kd.R_slice HO217.out
                  subst eo31
                  have p218 : 0 ≤ (1 : Int) := (by omega)
                  have q218 : 1 < (t213.length : Int) := of_decide_eq_true (by first | (with_reducible assumption) | assumption)
                  obtain ⟨ad218, e218, hx218_0⟩ := Kd.at_int (Kd.R_reads' HO217.out).2.2 1 p218 q218
                  cases e218
                  (try simp only [show (1 : Int).toNat = 1 from rfl, Nat.reduceMul, Nat.reduceEqDiff, Go.Addr.add, ↓reduceIte] at hx218_0)
                  have qi218 : (1 < t213.length) = True := eq_true (by omega)
                  (try rw [show ((1 : Int)).toNat = 1 from rfl] at hx218_0)
                  replace p218 := eq_true p218
                  replace q218 := eq_true q218
                  have hnb32 := NB208_200.out
                  have hnc32 := NB200_208.out
                  have hcz33_0 : w22.cell? ⟨gb208, 0, none⟩ = some (.int .u8 t201) := (blk_cell BK208.out 0).trans rfl
                  have hcz33_1 : w22.cell? ⟨gb208, 1, none⟩ = some (.int .u8 t202) := (blk_cell BK208.out 1).trans rfl
                  have hcz33_2 : w22.cell? ⟨gb208, 2, none⟩ = some (.int .u8 t203) := (blk_cell BK208.out 2).trans rfl
                  have hcz33_3 : w22.cell? ⟨gb208, 3, none⟩ = some (.int .u8 t204) := (blk_cell BK208.out 3).trans rfl
                  have hcz33_4 : w22.cell? ⟨gb208, 4, none⟩ = some (.int .u8 t205) := (blk_cell BK208.out 4).trans rfl
                  have hfz33_0 := blk_frozen BK208.out 0
                  have hfz33_1 := blk_frozen BK208.out 1
                  have hfz33_2 := blk_frozen BK208.out 2
                  have hfz33_3 := blk_frozen BK208.out 3
                  have hfz33_4 := blk_frozen BK208.out 4
                  go_wp2
                  go_meet
                  case rel => exact ⟨_, (true), (by first | rfl | (simp; done) | (simp [*]; done)), H', ⟨by have := HJ3.out; first | omega | exact Nat.le_refl _⟩, ⟨by (with_reducible repeat (first | apply Kd.R_alloc | apply Kd.R_drewN | apply Kd.R_drew)); exact HO217.out⟩, ⟨by (with_reducible repeat (first | refine blk_drewN ?_ _ | refine blk_drew ?_ | refine blk_alloc ?_ _)); exact BK200.out⟩, ⟨by (with_reducible repeat (first | refine blk_drewN ?_ _ | refine blk_drew ?_ | refine blk_alloc ?_ _)); exact BK208.out⟩, ⟨by repeat (first | (with_reducible first | exact HB.out | apply below_alloc | apply pw_below_drewN | apply below_drew1 | refine below_set ?_ GE200.out | refine below_set ?_ GE208.out) | exact HB.out)⟩⟩
              · rw [if_neg c24] at H
                have c24b0 : ((rd t213 1) == 0) = false := beq_eq_false_iff_ne.mpr c24
                have c24b1 : ((rd t213 1) != 0) = true := bne_iff_ne.mpr c24
                have H' := Aside0.mk H
                clear H
                obtain ⟨Ao34, co34, eo34⟩ := Kd.R_slice HO217.out
                subst eo34
                have p218 : 0 ≤ (1 : Int) := (by omega)
                have q218 : 1 < (t213.length : Int) := of_decide_eq_true (by first | (with_reducible assumption) | assumption)
                obtain ⟨ad218, e218, hx218_0⟩ := Kd.at_int (Kd.R_reads' HO217.out).2.2 1 p218 q218
                cases e218
                (try simp only [show (1 : Int).toNat = 1 from rfl, Nat.reduceMul, Nat.reduceEqDiff, Go.Addr.add, ↓reduceIte] at hx218_0)
                have qi218 : (1 < t213.length) = True := eq_true (by omega)
                (try rw [show ((1 : Int)).toNat = 1 from rfl] at hx218_0)
                replace p218 := eq_true p218
                replace q218 := eq_true q218
                go_wp2
                go_meet
                case rel => exact ⟨_, (true), (by first | rfl | (simp; done) | (simp [*]; done)), H', ⟨by have := HJ3.out; first | omega | exact Nat.le_refl _⟩, ⟨by (with_reducible repeat (first | apply Kd.R_alloc | apply Kd.R_drewN | apply Kd.R_drew)); exact HO217.out⟩, ⟨by (with_reducible repeat (first | refine blk_drewN ?_ _ | refine blk_drew ?_ | refine blk_alloc ?_ _)); exact BK200.out⟩, ⟨by (with_reducible repeat (first | refine blk_drewN ?_ _ | refine blk_drew ?_ | refine blk_alloc ?_ _)); exact BK208.out⟩, ⟨by repeat (first | (with_reducible first | exact HB.out | apply below_alloc | apply pw_below_drewN | apply below_drew1 | refine below_set ?_ GE200.out | refine below_set ?_ GE208.out) | exact HB.out)⟩⟩
            · rw [if_neg c23] at H
              exact absurd H (by simp)
          case rest =>
            clear HC18
            try clear c1
            try clear c2
            try clear p2
            try clear q2
            try clear hx2
            try clear qi2
            try clear c3
            try clear c4
            try clear c8
            try clear c10
            try clear c10b0
            try clear c10b1
            try clear c12
            try clear c15
            try clear c15b0
            try clear c15b1
            try clear c17
            try clear c17b0
            try clear c17b1
            try clear p21
            try clear q21
            try clear hx21
            try clear qi21
            try clear c23
            try clear c23b0
            try clear c23b1
            try clear c24
            try clear c24b0
            try clear c24b1
            try clear c25
            try clear c25b0
            try clear c25b1
            try clear c26
            try clear c26b0
            try clear c26b1
            try clear c29
            try clear c32
            try clear hcz13_0
            try clear hcz13_1
            try clear hcz13_2
            try clear hcz13_3
            try clear hcz13_4
            try clear hcz30_0
            try clear hcz30_1
            try clear hcz30_2
            try clear hcz30_3
            try clear hcz30_4
            try clear hcz33_0
            try clear hcz33_1
            try clear hcz33_2
            try clear hcz33_3
            try clear hcz33_4
            try clear hcz9_0
            try clear hcz9_1
            try clear hcz9_2
            try clear hcz9_3
            try clear hcz9_4
            try clear hfz13_0
            try clear hfz13_1
            try clear hfz13_2
            try clear hfz13_3
            try clear hfz13_4
            try clear hfz30_0
            try clear hfz30_1
            try clear hfz30_2
            try clear hfz30_3
            try clear hfz30_4
            try clear hfz33_0
            try clear hfz33_1
            try clear hfz33_2
            try clear hfz33_3
            try clear hfz33_4
            try clear hfz9_0
            try clear hfz9_1
            try clear hfz9_2
            try clear hfz9_3
            try clear hfz9_4
            try clear hx218_0
            try clear p2
            try clear p218
            try clear q218
            obtain ⟨kq, x40_17, rfl, HA, HJ17, HO_9, BK200, BK208, HB⟩ := hcut
            cases kq with
            | zero => exact absurd HA.out (by simp [ccm_Open.j1])
            | succ kj17 =>
              have H := HA.out
              clear HA
              simp only [ccm_Open.j1] at H
              by_cases c35 : x40_17 = true
              · subst c35
                have H1 : (some (false, 0, 0, 0, (⟨#[]⟩ : ByteArray), 3)) = some (r1, r2, r3, r4, r5, r6) := by rw [if_pos rfl] at H; exact H
                clear H
                have H := H1
                clear H1
                simp only [Option.some.injEq, Prod.mk.injEq] at H
                obtain ⟨rfl, rfl, rfl, rfl, rfl, rfl⟩ := H
                have hnb36 := NB200_208.out
                have hnc36 := NB208_200.out
                have hcz37_0 : wc.cell? ⟨gb200, 0, none⟩ = some (.bool false) := (blk_cell BK200.out 0).trans rfl
                have hcz37_1 : wc.cell? ⟨gb200, 1, none⟩ = some (.int .u8 0) := (blk_cell BK200.out 1).trans rfl
                have hcz37_2 : wc.cell? ⟨gb200, 2, none⟩ = some (.int .u32 0) := (blk_cell BK200.out 2).trans rfl
                have hcz37_3 : wc.cell? ⟨gb200, 3, none⟩ = some (.int .u16 0) := (blk_cell BK200.out 3).trans rfl
                have hcz37_4 : wc.cell? ⟨gb200, 4, none⟩ = some (.string (⟨#[]⟩ : ByteArray)) := (blk_cell BK200.out 4).trans rfl
                have hfz37_0 := blk_frozen BK200.out 0
                have hfz37_1 := blk_frozen BK200.out 1
                have hfz37_2 := blk_frozen BK200.out 2
                have hfz37_3 := blk_frozen BK200.out 3
                have hfz37_4 := blk_frozen BK200.out 4
                go_wp2
                refine bodyPost_ret (results_ct rfl _ _ gb200 62 #[.bool false, .int .u8 0, .int .u32 0, .int .u16 0, .string (⟨#[]⟩ : ByteArray)] (0, 0) _ rfl (by (with_reducible repeat (first | refine blk_drewN ?_ _ | refine blk_drew ?_ | refine blk_alloc ?_ _)); refine blk_put (cs := #[.bool false, .int .u8 0, .int .u32 0, .int .u16 0, .string (⟨#[]⟩ : ByteArray)]) ?_ 4 _ rfl; (with_reducible repeat (first | refine blk_drewN ?_ _ | refine blk_drew ?_ | refine blk_alloc ?_ _)); refine blk_put (cs := #[.bool false, .int .u8 0, .int .u32 0, .int .u16 0, .string (⟨#[]⟩ : ByteArray)]) ?_ 3 _ rfl; (with_reducible repeat (first | refine blk_drewN ?_ _ | refine blk_drew ?_ | refine blk_alloc ?_ _)); refine blk_put (cs := #[.bool false, .int .u8 0, .int .u32 0, .int .u16 0, .string (⟨#[]⟩ : ByteArray)]) ?_ 2 _ rfl; (with_reducible repeat (first | refine blk_drewN ?_ _ | refine blk_drew ?_ | refine blk_alloc ?_ _)); refine blk_put (cs := #[.bool false, .int .u8 0, .int .u32 0, .int .u16 0, .string (⟨#[]⟩ : ByteArray)]) ?_ 1 _ rfl; (with_reducible repeat (first | refine blk_drewN ?_ _ | refine blk_drew ?_ | refine blk_alloc ?_ _)); refine blk_put (cs := #[.bool false, .int .u8 0, .int .u32 0, .int .u16 0, .string (⟨#[]⟩ : ByteArray)]) ?_ 0 _ rfl; (with_reducible repeat (first | refine blk_drewN ?_ _ | refine blk_drew ?_ | refine blk_alloc ?_ _)); exact BK200.out) Try.underlying62 rfl (by kernel_rfl)) rfl ?_
                exact ⟨by first | rfl | (simp [errW_none, errW_some] <;> rfl) | (simp [*, errW_none, errW_some] <;> rfl), by repeat (first | (with_reducible first | exact HB.out | apply below_alloc | apply pw_below_drewN | apply below_drew1 | refine below_set ?_ GE200.out | refine below_set ?_ GE208.out) | exact HB.out)⟩
              · replace c35 := Bool.eq_false_iff.mpr c35
                subst c35
                have H1 : (if 0 < (t213.length : Int) then (if 2 < (t213.length : Int) then (if 0 ≤ 48 then (if 48 ≤ (t214.size : Int) then ((ccm_Msg_wrong.f kj17 ((Go.bits .and .u8 t204 128) != 0) (Go.bits .and .u8 t204 7) ((rd t213 0) % 4294967296) (IntKind.u16.wrap (rd t213 2)) (t214.extract 0 48)).bind fun t223 => (if t223 = 0 then (some (((Go.bits .and .u8 t204 128) != 0), Go.bits .and .u8 t204 7, (rd t213 0) % 4294967296, IntKind.u16.wrap (rd t213 2), t214.extract 0 48, 0)) else (some (false, 0, 0, 0, (⟨#[]⟩ : ByteArray), t223)))) else (none)) else (none)) else (none)) else (none)) = some (r1, r2, r3, r4, r5, r6) := by rw [if_neg (show ¬ (false = true) by decide)] at H; exact H
                clear H
                have H := H1
                clear H1
                by_cases c38 : 0 < (t213.length : Int)
                · rw [if_pos c38] at H
                  have c38b0 : decide (0 < (t213.length : Int)) = true := decide_eq_true c38
                  have c38b1 : decide (0 < t213.length) = true := decide_eq_true (by omega)
                  clear c38
                  by_cases c39 : 2 < (t213.length : Int)
                  · rw [if_pos c39] at H
                    have c39b0 : decide (2 < (t213.length : Int)) = true := decide_eq_true c39
                    have c39b1 : decide (2 < t213.length) = true := decide_eq_true (by omega)
                    clear c39
                    by_cases c40 : 0 ≤ 48
                    · rw [if_pos c40] at H
                      have c40b0 := eq_true c40
                      have c40b1 : decide (0 ≤ 48) = true := decide_eq_true c40
                      clear c40
                      by_cases c41 : 48 ≤ (t214.size : Int)
                      · rw [if_pos c41] at H
                        have c41b0 := eq_true c41
                        have c41b1 : decide (48 ≤ (t214.size : Int)) = true := decide_eq_true c41
                        clear c41
                        replace H := Option.bind_eq_some_iff.mp H
                        obtain ⟨t223, A420, H⟩ := H
                        replace H : (if t223 = 0 then (some (((Go.bits .and .u8 t204 128) != 0), Go.bits .and .u8 t204 7, (rd t213 0) % 4294967296, IntKind.u16.wrap (rd t213 2), t214.extract 0 48, 0)) else (some (false, 0, 0, 0, (⟨#[]⟩ : ByteArray), t223))) = some (r1, r2, r3, r4, r5, r6) := H
                        have A42 := Aside0.mk A420
                        clear A420
                        by_cases c43 : t223 = 0
                        · rw [if_pos c43] at H
                          have c43b0 : (t223 == 0) = true := beq_iff_eq.mpr c43
                          have c43b1 : (t223 != 0) = false := bne_eq_false_iff_eq.mpr c43
                          clear c43
                          simp only [Option.some.injEq, Prod.mk.injEq] at H
                          obtain ⟨rfl, rfl, rfl, rfl, rfl, rfl⟩ := H
                          try go_wp2
                          have n0_ := Aside0.mk (Kd.R_drew HO_9.out)
                          have n1_ := Aside0.mk (blk_drew BK200.out)
                          have n2_ := Aside0.mk (blk_drew BK208.out)
                          have n3_ := Aside0.mk (below_drew1 HB.out)
                          clear HO_9
                          clear BK200
                          clear BK208
                          clear HB
                          have HO_9 := n0_
                          have BK200 := n1_
                          have BK208 := n2_
                          have HB := n3_
                          clear n0_ n1_ n2_ n3_
                          obtain ⟨Ao45, co45, eo45⟩ := Kd.R_slice HO_9.out
                          (first | subst eo45 | (injection eo45 with f1_ f2_ f3_; have f4_ := f1_.symm; have f5_ := f3_.symm; clear f1_ f2_ f3_; subst f4_; subst f5_))
                          have p220 : 0 ≤ (0 : Int) := (by omega)
                          have q220 : 0 < (t213.length : Int) := of_decide_eq_true (by first | (with_reducible assumption) | assumption)
                          obtain ⟨ad220, e220, hx220_0⟩ := Kd.at_int (Kd.R_reads' HO_9.out).2.2 0 p220 q220
                          cases e220
                          have qi220 : (0 < t213.length) = True := eq_true (by omega)
                          (try rw [show ((0 : Int)).toNat = 0 from rfl] at hx220_0)
                          (try rw [Addr.add_zero'] at hx220_0)
                          replace p220 := eq_true p220
                          replace q220 := eq_true q220
                          have p221 : 0 ≤ (2 : Int) := (by omega)
                          have q221 : 2 < (t213.length : Int) := of_decide_eq_true (by first | (with_reducible assumption) | assumption)
                          obtain ⟨ad221, e221, hx221_0⟩ := Kd.at_int (Kd.R_reads' HO_9.out).2.2 2 p221 q221
                          obtain rfl : ad220 = ad221 := (by injection e221)
                          (try simp only [show (2 : Int).toNat = 2 from rfl, Nat.reduceMul, Nat.reduceEqDiff, Go.Addr.add, ↓reduceIte] at hx221_0)
                          have qi221 : (2 < t213.length) = True := eq_true (by omega)
                          (try rw [show ((2 : Int)).toNat = 2 from rfl] at hx221_0)
                          replace p221 := eq_true p221
                          replace q221 := eq_true q221
                          refine start_ (n := 20) (S := fun w' => w'.cell? ⟨gb208, 0, none⟩ = some (.int .u8 t201) ∧ w'.cell? ⟨gb208, 1, none⟩ = some (.int .u8 t202) ∧ w'.cell? ⟨gb208, 2, none⟩ = some (.int .u8 t203) ∧ w'.cell? ⟨gb208, 3, none⟩ = some (.int .u8 t204) ∧ w'.cell? ⟨gb208, 4, none⟩ = some (.int .u8 t205) ∧ w'.cell? ad220 = some (.int .u64 (rd t213 0)) ∧ w'.cell? ⟨ad220.block, ad220.off + 2, none⟩ = some (.int .u64 (rd t213 2))) (ds := []) #[false, false, false, false, false, false, false, false, false, false, false, false, false, false, false, false, false, false, false, false] (by kernel_rfl) rfl rfl ⟨(blk_cell BK208.out 0).trans rfl, (blk_cell BK208.out 1).trans rfl, (blk_cell BK208.out 2).trans rfl, (blk_cell BK208.out 3).trans rfl, (blk_cell BK208.out 4).trans rfl, hx220_0, hx221_0⟩ (fun hHeld => ?_); refine with_tabW ccm_Open.tab11 ccm_Open.bits11 (fun HT_ HW_ => ?_)
                          generalize wc.drew = w44 at HO_9 BK200 BK208 HB hx220_0 hx221_0 hHeld ⊢
                          refine pure_ (i := 0) (N := some 58) (v := ?_) (a' := ?_) #[true, false, false, false, false, false, false, false, false, false, false, false, false, false, false, false, false, false, false, false] rfl rfl (any_of HT_.out (by kernel_rfl)) (fun _ _ _ h => h) (Or.inl ⟨by rfl, ?_⟩) ?_ ?_
                          rotate_left
                          · intro w'
                            go_simp
                            with_reducible rfl
                          rotate_left
                          · simp only [Act.put, List.setIfInBounds_toArray, List.set_cons_zero, List.set_cons_succ, i64_w, i32_w]
                            rfl
                          refine pure_ (i := 4) (N := some 62) (v := ?_) (a' := ?_) #[true, false, false, false, true, false, false, false, false, false, false, false, false, false, false, false, false, false, false, false] rfl rfl (any_of HT_.out (by kernel_rfl)) (fun _ _ _ h => h) (Or.inl ⟨by rfl, ?_⟩) ?_ ?_
                          rotate_left
                          · intro w'
                            go_simp
                            with_reducible rfl
                          rotate_left
                          · simp only [Act.put, List.setIfInBounds_toArray, List.set_cons_zero, List.set_cons_succ, i64_w, i32_w]
                            rfl
                          refine pure_ (i := 7) (N := some 65) (v := ?_) (a' := ?_) #[true, false, false, false, true, false, false, true, false, false, false, false, false, false, false, false, false, false, false, false] rfl rfl (any_of HT_.out (by kernel_rfl)) (fun _ _ _ h => h) (Or.inl ⟨by rfl, ?_⟩) ?_ ?_
                          rotate_left
                          · intro w'
                            go_simp
                            with_reducible rfl
                          rotate_left
                          · simp only [Act.put, List.setIfInBounds_toArray, List.set_cons_zero, List.set_cons_succ, i64_w, i32_w]
                            rfl
                          refine pure_ (i := 8) (N := some 66) (v := ?_) (a' := ?_) #[true, false, false, false, true, false, false, true, true, false, false, false, false, false, false, false, false, false, false, false] rfl rfl (any_of HT_.out (by kernel_rfl)) (fun _ _ _ h => h) (Or.inl ⟨by rfl, ?_⟩) ?_ ?_
                          rotate_left
                          · intro w'
                            go_simp
                            with_reducible rfl
                          rotate_left
                          · simp only [Act.put, List.setIfInBounds_toArray, List.set_cons_zero, List.set_cons_succ, i64_w, i32_w]
                            rfl
                          refine pure_ (i := 11) (N := some 69) (v := ?_) (a' := ?_) #[true, false, false, false, true, false, false, true, true, false, false, true, false, false, false, false, false, false, false, false] rfl rfl (any_of HT_.out (by kernel_rfl)) (fun _ _ _ h => h) (Or.inl ⟨by rfl, ?_⟩) ?_ ?_
                          rotate_left
                          · intro w'
                            go_simp
                            with_reducible rfl
                          rotate_left
                          · simp only [Act.put, List.setIfInBounds_toArray, List.set_cons_zero, List.set_cons_succ, i64_w, i32_w]
                            rfl
                          refine pure_ (i := 12) (N := some 70) (v := ?_) (a' := ?_) #[true, false, false, false, true, false, false, true, true, false, false, true, true, false, false, false, false, false, false, false] rfl rfl (any_of HT_.out (by kernel_rfl)) (fun _ _ _ h => h) (Or.inl ⟨by rfl, ?_⟩) ?_ ?_
                          rotate_left
                          · intro w'
                            go_simp
                            with_reducible rfl
                          rotate_left
                          · simp only [Act.put, List.setIfInBounds_toArray, List.set_cons_zero, List.set_cons_succ, i64_w, i32_w]
                            rfl
                          refine pure_ (i := 15) (N := some 73) (v := ?_) (a' := ?_) #[true, false, false, false, true, false, false, true, true, false, false, true, true, false, false, true, false, false, false, false] rfl rfl (any_of HT_.out (by kernel_rfl)) (fun _ _ _ h => h) (Or.inl ⟨by rfl, ?_⟩) ?_ ?_
                          rotate_left
                          · intro w'
                            go_simp
                            with_reducible rfl
                          rotate_left
                          · simp only [Act.put, List.setIfInBounds_toArray, List.set_cons_zero, List.set_cons_succ, i64_w, i32_w]
                            rfl
                          refine pure_ (i := 16) (N := some 74) (v := ?_) (a' := ?_) #[true, false, false, false, true, false, false, true, true, false, false, true, true, false, false, true, true, false, false, false] rfl rfl (any_of HT_.out (by kernel_rfl)) (fun _ _ _ h => h) (Or.inl ⟨by rfl, ?_⟩) ?_ ?_
                          rotate_left
                          · intro w'
                            go_simp
                            with_reducible rfl
                          rotate_left
                          · simp only [Act.put, List.setIfInBounds_toArray, List.set_cons_zero, List.set_cons_succ, i64_w, i32_w]
                            rfl
                          refine take_ (i := 1) (N := some 59) (v := ?_) (a' := ?_) #[true, true, false, false, true, false, false, true, true, false, false, true, true, false, false, true, true, false, false, false] rfl rfl (take_ofW HT_.out HW_.out (by kernel_rfl)) (fun _ _ _ h => h) (Or.inl ⟨by rfl, ?_⟩) hHeld ?_ ?_
                          rotate_left
                          · rintro w' ⟨s0, s1, s2, s3, s4, s5, s6⟩
                            go_simp
                            with_reducible rfl
                          rotate_left
                          · simp only [Act.put, List.setIfInBounds_toArray, List.set_cons_zero, List.set_cons_succ, i64_w, i32_w]
                            rfl
                          refine pure_ (i := 2) (N := some 60) (v := ?_) (a' := ?_) #[true, true, true, false, true, false, false, true, true, false, false, true, true, false, false, true, true, false, false, false] rfl rfl (any_of HT_.out (by kernel_rfl)) (fun _ _ _ h => h) (Or.inl ⟨by rfl, ?_⟩) ?_ ?_
                          rotate_left
                          · intro w'
                            go_simp
                            with_reducible rfl
                          rotate_left
                          · simp only [Act.put, List.setIfInBounds_toArray, List.set_cons_zero, List.set_cons_succ, i64_w, i32_w]
                            rfl
                          refine pure_ (i := 3) (N := some 61) (v := ?_) (a' := ?_) #[true, true, true, true, true, false, false, true, true, false, false, true, true, false, false, true, true, false, false, false] rfl rfl (any_of HT_.out (by kernel_rfl)) (fun _ _ _ h => h) (Or.inl ⟨by rfl, ?_⟩) ?_ ?_
                          rotate_left
                          · intro w'
                            go_simp
                            with_reducible rfl
                          rotate_left
                          · simp only [Act.put, List.setIfInBounds_toArray, List.set_cons_zero, List.set_cons_succ, i64_w, i32_w]
                            rfl
                          refine take_ (i := 5) (N := some 63) (v := ?_) (a' := ?_) #[true, true, true, true, true, true, false, true, true, false, false, true, true, false, false, true, true, false, false, false] rfl rfl (take_ofW HT_.out HW_.out (by kernel_rfl)) (fun _ _ _ h => h) (Or.inl ⟨by rfl, ?_⟩) hHeld ?_ ?_
                          rotate_left
                          · rintro w' ⟨s0, s1, s2, s3, s4, s5, s6⟩
                            go_simp
                            with_reducible rfl
                          rotate_left
                          · simp only [Act.put, List.setIfInBounds_toArray, List.set_cons_zero, List.set_cons_succ, i64_w, i32_w]
                            rfl
                          refine pure_ (i := 6) (N := some 64) (v := ?_) (a' := ?_) #[true, true, true, true, true, true, true, true, true, false, false, true, true, false, false, true, true, false, false, false] rfl rfl (any_of HT_.out (by kernel_rfl)) (fun _ _ _ h => h) (Or.inl ⟨by rfl, ?_⟩) ?_ ?_
                          rotate_left
                          · intro w'
                            go_simp
                            with_reducible rfl
                          rotate_left
                          · simp only [Act.put, List.setIfInBounds_toArray, List.set_cons_zero, List.set_cons_succ, i64_w, i32_w]
                            rfl
                          refine take_ (i := 9) (N := some 67) (v := ?_) (a' := ?_) #[true, true, true, true, true, true, true, true, true, true, false, true, true, false, false, true, true, false, false, false] rfl rfl (take_ofW HT_.out HW_.out (by kernel_rfl)) (fun _ _ _ h => h) (Or.inl ⟨by rfl, ?_⟩) hHeld ?_ ?_
                          rotate_left
                          · rintro w' ⟨s0, s1, s2, s3, s4, s5, s6⟩
                            go_simp
                            with_reducible rfl
                          rotate_left
                          · simp only [Act.put, List.setIfInBounds_toArray, List.set_cons_zero, List.set_cons_succ, i64_w, i32_w]
                            rfl
                          refine pure_ (i := 10) (N := some 68) (v := ?_) (a' := ?_) #[true, true, true, true, true, true, true, true, true, true, true, true, true, false, false, true, true, false, false, false] rfl rfl (any_of HT_.out (by kernel_rfl)) (fun _ _ _ h => h) (Or.inl ⟨by rfl, ?_⟩) ?_ ?_
                          rotate_left
                          · intro w'
                            go_simp
                            with_reducible rfl
                          rotate_left
                          · simp only [Act.put, List.setIfInBounds_toArray, List.set_cons_zero, List.set_cons_succ, i64_w, i32_w]
                            rfl
                          refine take_ (i := 13) (N := some 71) (v := ?_) (a' := ?_) #[true, true, true, true, true, true, true, true, true, true, true, true, true, true, false, true, true, false, false, false] rfl rfl (take_ofW HT_.out HW_.out (by kernel_rfl)) (fun _ _ _ h => h) (Or.inl ⟨by rfl, ?_⟩) hHeld ?_ ?_
                          rotate_left
                          · rintro w' ⟨s0, s1, s2, s3, s4, s5, s6⟩
                            go_simp
                            with_reducible rfl
                          rotate_left
                          · simp only [Act.put, List.setIfInBounds_toArray, List.set_cons_zero, List.set_cons_succ, i64_w, i32_w]
                            rfl
                          refine pure_ (i := 14) (N := some 72) (v := ?_) (a' := ?_) #[true, true, true, true, true, true, true, true, true, true, true, true, true, true, true, true, true, false, false, false] rfl rfl (any_of HT_.out (by kernel_rfl)) (fun _ _ _ h => h) (Or.inl ⟨by rfl, ?_⟩) ?_ ?_
                          rotate_left
                          · intro w'
                            go_simp
                            with_reducible rfl
                          rotate_left
                          · simp only [Act.put, List.setIfInBounds_toArray, List.set_cons_zero, List.set_cons_succ, i64_w, i32_w]
                            rfl
                          refine pure_ (i := 17) (N := some 75) (v := ?_) (a' := ?_) #[true, true, true, true, true, true, true, true, true, true, true, true, true, true, true, true, true, true, false, false] rfl rfl (any_of HT_.out (by kernel_rfl)) (fun _ _ _ h => h) (Or.inl ⟨by rfl, ?_⟩) ?_ ?_
                          rotate_left
                          · intro w'
                            go_simp
                            with_reducible rfl
                          rotate_left
                          · simp only [Act.put, List.setIfInBounds_toArray, List.set_cons_zero, List.set_cons_succ, i64_w, i32_w]
                            rfl
                          refine one_ (i := 18) (N := some 11) #[true, true, true, true, true, true, true, true, true, true, true, true, true, true, true, true, true, true, true, false] rfl rfl (one_of HT_.out (by kernel_rfl)) (by decide) (fun K hK => ?_)
                          refine box_step ?hg (N := 11) ?hd (cs := #[.bool false, .int .u8 0, .int .u32 0, .int .u16 0, .string (⟨#[]⟩ : ByteArray)]) (t := 62) ?hr ?_; (case hd => rfl); (case hg => rfl); (case hr => first | (go_simp; done) | (go_simp; rfl))
                          intro gb222 hg w46 hbox hb
                          have HS5_ := (hb.cell (World.block_lt_of_cell? _ _ (hHeld.2.2.2.2.2.1))).trans (hHeld.2.2.2.2.2.1)
                          have HS6_ := (hb.cell (World.block_lt_of_cell? _ _ (hHeld.2.2.2.2.2.2))).trans (hHeld.2.2.2.2.2.2)
                          have n0_ := Aside0.mk (Kd.R_below (by (with_reducible repeat (first | apply Kd.R_alloc | apply Kd.R_drewN | apply Kd.R_drew)); exact HO_9.out) hb)
                          have n1_ := Aside0.mk (blk_below (g := gb200) (o := .cells #[.bool false, .int .u8 0, .int .u32 0, .int .u16 0, .string (⟨#[]⟩ : ByteArray)] 62 (0, 0)) (by (with_reducible repeat (first | refine blk_drewN ?_ _ | refine blk_drew ?_ | refine blk_alloc ?_ _)); exact BK200.out) hb)
                          have n2_ := Aside0.mk (blk_below (g := gb208) (o := .cells #[.int .u8 t201, .int .u8 t202, .int .u8 t203, .int .u8 t204, .int .u8 t205] 84 (0, 0)) (by (with_reducible repeat (first | refine blk_drewN ?_ _ | refine blk_drew ?_ | refine blk_alloc ?_ _)); exact BK208.out) hb)
                          have n3_ := Aside0.mk (below_step (by repeat (first | (with_reducible first | exact HB.out | apply below_alloc | apply pw_below_drewN | apply below_drew1 | refine below_set ?_ GE200.out | refine below_set ?_ GE208.out) | exact HB.out)) hb)
                          have n4_ := Aside0.mk (hbox)
                          have n5_ := Aside0.mk ((by rw [hg]; exact (below_size (by repeat (first | (with_reducible first | exact HB.out | apply below_alloc | apply pw_below_drewN | apply below_drew1 | refine below_set ?_ GE200.out | refine below_set ?_ GE208.out) | exact HB.out))) : w.heap.size ≤ gb222))
                          have n6_ := Aside0.mk ((by rw [hg]; exact (below_size (by repeat (first | (with_reducible first | exact HB.out | apply below_alloc | apply pw_below_drewN | apply below_drew1 | refine below_set ?_ GE200.out | refine below_set ?_ GE208.out) | exact HB.out))) : w.heap.size ≤ gb222))
                          have n7_ := Aside0.mk ((by rw [hg]; exact Nat.ne_of_lt (blk_lt (g := gb200) (o := .cells #[.bool false, .int .u8 0, .int .u32 0, .int .u16 0, .string (⟨#[]⟩ : ByteArray)] 62 (0, 0)) (by (with_reducible repeat (first | refine blk_drewN ?_ _ | refine blk_drew ?_ | refine blk_alloc ?_ _)); exact BK200.out)) : gb200 ≠ gb222))
                          have n8_ := Aside0.mk ((by rw [hg]; exact Nat.ne_of_gt (blk_lt (g := gb200) (o := .cells #[.bool false, .int .u8 0, .int .u32 0, .int .u16 0, .string (⟨#[]⟩ : ByteArray)] 62 (0, 0)) (by (with_reducible repeat (first | refine blk_drewN ?_ _ | refine blk_drew ?_ | refine blk_alloc ?_ _)); exact BK200.out)) : gb222 ≠ gb200))
                          have n9_ := Aside0.mk ((by rw [hg]; exact Nat.ne_of_lt (blk_lt (g := gb208) (o := .cells #[.int .u8 t201, .int .u8 t202, .int .u8 t203, .int .u8 t204, .int .u8 t205] 84 (0, 0)) (by (with_reducible repeat (first | refine blk_drewN ?_ _ | refine blk_drew ?_ | refine blk_alloc ?_ _)); exact BK208.out)) : gb208 ≠ gb222))
                          have n10_ := Aside0.mk ((by rw [hg]; exact Nat.ne_of_gt (blk_lt (g := gb208) (o := .cells #[.int .u8 t201, .int .u8 t202, .int .u8 t203, .int .u8 t204, .int .u8 t205] 84 (0, 0)) (by (with_reducible repeat (first | refine blk_drewN ?_ _ | refine blk_drew ?_ | refine blk_alloc ?_ _)); exact BK208.out)) : gb222 ≠ gb208))
                          clear HO_9
                          clear BK200
                          clear BK208
                          clear HB
                          have HO_9 := n0_
                          have BK200 := n1_
                          have BK208 := n2_
                          have HB := n3_
                          have BK222 := n4_
                          have GW222 := n5_
                          have GE222 := n6_
                          have NB200_222 := n7_
                          have NB222_200 := n8_
                          have NB208_222 := n9_
                          have NB222_208 := n10_
                          clear n0_ n1_ n2_ n3_ n4_ n5_ n6_ n7_ n8_ n9_ n10_
                          clear hb hbox hg
                          refine hK.out _ _ ⟨(blk_cell BK208.out 0).trans rfl, (blk_cell BK208.out 1).trans rfl, (blk_cell BK208.out 2).trans rfl, (blk_cell BK208.out 3).trans rfl, (blk_cell BK208.out 4).trans rfl, HS5_, HS6_⟩ (fun hHeld => ?_)
                          clear hK K
                          refine norm_ (a' := ?_) ?_ ?_
                          rotate_left
                          · show Act.put _ (some 11) _ = _
                            simp only [Act.put, List.setIfInBounds_toArray, List.set_cons_zero, List.set_cons_succ, i64_w, i32_w]
                            rfl
                          refine one_ (i := 19) (N := none) #[true, true, true, true, true, true, true, true, true, true, true, true, true, true, true, true, true, true, true, true] rfl rfl (one_of HT_.out (by kernel_rfl)) (by decide) (fun K hK => ?_)
                          have hs47 : w46.cell? ⟨gb222, 0, none⟩ = some (.bool false) := (blk_cell BK222.out 0).trans rfl
                          have hfs47 := blk_frozen BK222.out 0
                          have hns47_0 := NB200_222.out
                          have hns47_1 := NB208_222.out
                          have hms47_0 := NB222_200.out
                          have hms47_1 := NB222_208.out
                          have hs48 : w46.cell? ⟨gb222, 1, none⟩ = some (.int .u8 0) := (blk_cell BK222.out 1).trans rfl
                          have hfs48 := blk_frozen BK222.out 1
                          have hns48_0 := NB200_222.out
                          have hns48_1 := NB208_222.out
                          have hms48_0 := NB222_200.out
                          have hms48_1 := NB222_208.out
                          have hs49 : w46.cell? ⟨gb222, 2, none⟩ = some (.int .u32 0) := (blk_cell BK222.out 2).trans rfl
                          have hfs49 := blk_frozen BK222.out 2
                          have hns49_0 := NB200_222.out
                          have hns49_1 := NB208_222.out
                          have hms49_0 := NB222_200.out
                          have hms49_1 := NB222_208.out
                          have hs50 : w46.cell? ⟨gb222, 3, none⟩ = some (.int .u16 0) := (blk_cell BK222.out 3).trans rfl
                          have hfs50 := blk_frozen BK222.out 3
                          have hns50_0 := NB200_222.out
                          have hns50_1 := NB208_222.out
                          have hms50_0 := NB222_200.out
                          have hms50_1 := NB222_208.out
                          have hs51 : w46.cell? ⟨gb222, 4, none⟩ = some (.string (⟨#[]⟩ : ByteArray)) := (blk_cell BK222.out 4).trans rfl
                          have hfs51 := blk_frozen BK222.out 4
                          have hns51_0 := NB200_222.out
                          have hns51_1 := NB208_222.out
                          have hms51_0 := NB222_200.out
                          have hms51_1 := NB222_208.out
                          refine skip_ (w1 := ?_) (by rfl) rfl ?_ ?_
                          rotate_left
                          · go_simp
                            rfl
                          refine hK.out _ _ ⟨((cell_far (p := ⟨gb222, _, none⟩) NB208_222.out _).trans (((cell_far (p := ⟨gb222, _, none⟩) NB208_222.out _).trans (((cell_far (p := ⟨gb222, _, none⟩) NB208_222.out _).trans (((cell_far (p := ⟨gb222, _, none⟩) NB208_222.out _).trans (((cell_far (p := ⟨gb222, _, none⟩) NB208_222.out _).trans (hHeld.1)))))))))), ((cell_far (p := ⟨gb222, _, none⟩) NB208_222.out _).trans (((cell_far (p := ⟨gb222, _, none⟩) NB208_222.out _).trans (((cell_far (p := ⟨gb222, _, none⟩) NB208_222.out _).trans (((cell_far (p := ⟨gb222, _, none⟩) NB208_222.out _).trans (((cell_far (p := ⟨gb222, _, none⟩) NB208_222.out _).trans (hHeld.2.1)))))))))), ((cell_far (p := ⟨gb222, _, none⟩) NB208_222.out _).trans (((cell_far (p := ⟨gb222, _, none⟩) NB208_222.out _).trans (((cell_far (p := ⟨gb222, _, none⟩) NB208_222.out _).trans (((cell_far (p := ⟨gb222, _, none⟩) NB208_222.out _).trans (((cell_far (p := ⟨gb222, _, none⟩) NB208_222.out _).trans (hHeld.2.2.1)))))))))), ((cell_far (p := ⟨gb222, _, none⟩) NB208_222.out _).trans (((cell_far (p := ⟨gb222, _, none⟩) NB208_222.out _).trans (((cell_far (p := ⟨gb222, _, none⟩) NB208_222.out _).trans (((cell_far (p := ⟨gb222, _, none⟩) NB208_222.out _).trans (((cell_far (p := ⟨gb222, _, none⟩) NB208_222.out _).trans (hHeld.2.2.2.1)))))))))), ((cell_far (p := ⟨gb222, _, none⟩) NB208_222.out _).trans (((cell_far (p := ⟨gb222, _, none⟩) NB208_222.out _).trans (((cell_far (p := ⟨gb222, _, none⟩) NB208_222.out _).trans (((cell_far (p := ⟨gb222, _, none⟩) NB208_222.out _).trans (((cell_far (p := ⟨gb222, _, none⟩) NB208_222.out _).trans (hHeld.2.2.2.2.1)))))))))), ((cell_far (p := ⟨gb222, _, none⟩) (by first | exact Kd.own_blk (Kd.R_ne HO_9.out BK222.out (by decide)) | (rw [add_block]; exact Kd.own_blk (Kd.R_ne HO_9.out BK222.out (by decide))) | (show (Addr.add _ _).block ≠ _; rw [add_block]; exact Kd.own_blk (Kd.R_ne HO_9.out BK222.out (by decide))) | (dsimp only; exact Kd.own_blk (Kd.R_ne HO_9.out BK222.out (by decide)))) _).trans (((cell_far (p := ⟨gb222, _, none⟩) (by first | exact Kd.own_blk (Kd.R_ne HO_9.out BK222.out (by decide)) | (rw [add_block]; exact Kd.own_blk (Kd.R_ne HO_9.out BK222.out (by decide))) | (show (Addr.add _ _).block ≠ _; rw [add_block]; exact Kd.own_blk (Kd.R_ne HO_9.out BK222.out (by decide))) | (dsimp only; exact Kd.own_blk (Kd.R_ne HO_9.out BK222.out (by decide)))) _).trans (((cell_far (p := ⟨gb222, _, none⟩) (by first | exact Kd.own_blk (Kd.R_ne HO_9.out BK222.out (by decide)) | (rw [add_block]; exact Kd.own_blk (Kd.R_ne HO_9.out BK222.out (by decide))) | (show (Addr.add _ _).block ≠ _; rw [add_block]; exact Kd.own_blk (Kd.R_ne HO_9.out BK222.out (by decide))) | (dsimp only; exact Kd.own_blk (Kd.R_ne HO_9.out BK222.out (by decide)))) _).trans (((cell_far (p := ⟨gb222, _, none⟩) (by first | exact Kd.own_blk (Kd.R_ne HO_9.out BK222.out (by decide)) | (rw [add_block]; exact Kd.own_blk (Kd.R_ne HO_9.out BK222.out (by decide))) | (show (Addr.add _ _).block ≠ _; rw [add_block]; exact Kd.own_blk (Kd.R_ne HO_9.out BK222.out (by decide))) | (dsimp only; exact Kd.own_blk (Kd.R_ne HO_9.out BK222.out (by decide)))) _).trans (((cell_far (p := ⟨gb222, _, none⟩) (by first | exact Kd.own_blk (Kd.R_ne HO_9.out BK222.out (by decide)) | (rw [add_block]; exact Kd.own_blk (Kd.R_ne HO_9.out BK222.out (by decide))) | (show (Addr.add _ _).block ≠ _; rw [add_block]; exact Kd.own_blk (Kd.R_ne HO_9.out BK222.out (by decide))) | (dsimp only; exact Kd.own_blk (Kd.R_ne HO_9.out BK222.out (by decide)))) _).trans (hHeld.2.2.2.2.2.1)))))))))), ((cell_far (p := ⟨gb222, _, none⟩) (by first | exact Kd.own_blk (Kd.R_ne HO_9.out BK222.out (by decide)) | (rw [add_block]; exact Kd.own_blk (Kd.R_ne HO_9.out BK222.out (by decide))) | (show (Addr.add _ _).block ≠ _; rw [add_block]; exact Kd.own_blk (Kd.R_ne HO_9.out BK222.out (by decide))) | (dsimp only; exact Kd.own_blk (Kd.R_ne HO_9.out BK222.out (by decide)))) _).trans (((cell_far (p := ⟨gb222, _, none⟩) (by first | exact Kd.own_blk (Kd.R_ne HO_9.out BK222.out (by decide)) | (rw [add_block]; exact Kd.own_blk (Kd.R_ne HO_9.out BK222.out (by decide))) | (show (Addr.add _ _).block ≠ _; rw [add_block]; exact Kd.own_blk (Kd.R_ne HO_9.out BK222.out (by decide))) | (dsimp only; exact Kd.own_blk (Kd.R_ne HO_9.out BK222.out (by decide)))) _).trans (((cell_far (p := ⟨gb222, _, none⟩) (by first | exact Kd.own_blk (Kd.R_ne HO_9.out BK222.out (by decide)) | (rw [add_block]; exact Kd.own_blk (Kd.R_ne HO_9.out BK222.out (by decide))) | (show (Addr.add _ _).block ≠ _; rw [add_block]; exact Kd.own_blk (Kd.R_ne HO_9.out BK222.out (by decide))) | (dsimp only; exact Kd.own_blk (Kd.R_ne HO_9.out BK222.out (by decide)))) _).trans (((cell_far (p := ⟨gb222, _, none⟩) (by first | exact Kd.own_blk (Kd.R_ne HO_9.out BK222.out (by decide)) | (rw [add_block]; exact Kd.own_blk (Kd.R_ne HO_9.out BK222.out (by decide))) | (show (Addr.add _ _).block ≠ _; rw [add_block]; exact Kd.own_blk (Kd.R_ne HO_9.out BK222.out (by decide))) | (dsimp only; exact Kd.own_blk (Kd.R_ne HO_9.out BK222.out (by decide)))) _).trans (((cell_far (p := ⟨gb222, _, none⟩) (by first | exact Kd.own_blk (Kd.R_ne HO_9.out BK222.out (by decide)) | (rw [add_block]; exact Kd.own_blk (Kd.R_ne HO_9.out BK222.out (by decide))) | (show (Addr.add _ _).block ≠ _; rw [add_block]; exact Kd.own_blk (Kd.R_ne HO_9.out BK222.out (by decide))) | (dsimp only; exact Kd.own_blk (Kd.R_ne HO_9.out BK222.out (by decide)))) _).trans (hHeld.2.2.2.2.2.2))))))))))⟩ (fun hHeld => ?_)
                          clear hK K
                          refine done_ (done_of HT_.out (by kernel_rfl)) ?_
                          have hnb52 := NB222_200.out
                          have hnc52 := NB200_222.out
                          have hnb53 := NB222_208.out
                          have hnc53 := NB208_222.out
                          have hcz54_0 : w46.cell? ⟨gb222, 0, none⟩ = some (.bool false) := (blk_cell BK222.out 0).trans rfl
                          have hcz54_1 : w46.cell? ⟨gb222, 1, none⟩ = some (.int .u8 0) := (blk_cell BK222.out 1).trans rfl
                          have hcz54_2 : w46.cell? ⟨gb222, 2, none⟩ = some (.int .u32 0) := (blk_cell BK222.out 2).trans rfl
                          have hcz54_3 : w46.cell? ⟨gb222, 3, none⟩ = some (.int .u16 0) := (blk_cell BK222.out 3).trans rfl
                          have hcz54_4 : w46.cell? ⟨gb222, 4, none⟩ = some (.string (⟨#[]⟩ : ByteArray)) := (blk_cell BK222.out 4).trans rfl
                          have hfz54_0 := blk_frozen BK222.out 0
                          have hfz54_1 := blk_frozen BK222.out 1
                          have hfz54_2 := blk_frozen BK222.out 2
                          have hfz54_3 := blk_frozen BK222.out 3
                          have hfz54_4 := blk_frozen BK222.out 4
                          try go_wp2_with (first | ((with_reducible refine gate_callee (f := 47) rfl ?_); refine goesL_ (some 77) rfl rfl Try.func47 (by kernel_rfl) rfl #[.agg #[.bool ((Go.bits .and .u8 t204 128) != 0), .int .u8 (Go.bits .and .u8 t204 7), .int .u32 ((rd t213 0) % 4294967296), .int .u16 (IntKind.u16.wrap (rd t213 2)), .string (t214.extract 0 48)]] rfl (by (try simp only [List.map_toArray, List.map_cons, List.map_nil]); first | done | rfl | (simp only [List.length_drop, List.length_take]; rfl)) ?_; (with_reducible refine (ccm_Msg_wrong.calls kj17 ((Go.bits .and .u8 t204 128) != 0) (Go.bits .and .u8 t204 7) ((rd t213 0) % 4294967296) (IntKind.u16.wrap (rd t213 2)) (t214.extract 0 48) t223 _ A42.out).mono ?_); rintro e w55 ⟨rfl, hb⟩; refine ⟨_, rfl, ?_⟩; have n0_ := Aside0.mk (Kd.R_below (by (with_reducible repeat (first | apply Kd.R_alloc | apply Kd.R_drewN | apply Kd.R_drew)); exact (Kd.R_mono (Kd.R_far (p := ⟨gb222, 4, none⟩) (Kd.R_far (p := ⟨gb222, 3, none⟩) (Kd.R_far (p := ⟨gb222, 2, none⟩) (Kd.R_far (p := ⟨gb222, 1, none⟩) (Kd.R_far (p := ⟨gb222, 0, none⟩) (Kd.R_types HO_9.out BK222.out (by decide)) (fun _ hk => hk.2) (.bool ((Go.bits .and .u8 t204 128) != 0))) (fun _ hk => hk.2) (.int .u8 (Go.bits .and .u8 t204 7))) (fun _ hk => hk.2) (.int .u32 ((rd t213 0) % 4294967296))) (fun _ hk => hk.2) (.int .u16 (IntKind.u16.wrap (rd t213 2)))) (fun _ hk => hk.2) (.string (t214.extract 0 48))) (fun _ h_ => h_.1))) hb); have n1_ := Aside0.mk (blk_below (g := gb200) (o := .cells #[.bool false, .int .u8 0, .int .u32 0, .int .u16 0, .string (⟨#[]⟩ : ByteArray)] 62 (0, 0)) (by (with_reducible repeat (first | refine blk_drewN ?_ _ | refine blk_drew ?_ | refine blk_alloc ?_ _)); refine blk_far ?_ NB200_222.out _; (with_reducible repeat (first | refine blk_drewN ?_ _ | refine blk_drew ?_ | refine blk_alloc ?_ _)); refine blk_far ?_ NB200_222.out _; (with_reducible repeat (first | refine blk_drewN ?_ _ | refine blk_drew ?_ | refine blk_alloc ?_ _)); refine blk_far ?_ NB200_222.out _; (with_reducible repeat (first | refine blk_drewN ?_ _ | refine blk_drew ?_ | refine blk_alloc ?_ _)); refine blk_far ?_ NB200_222.out _; (with_reducible repeat (first | refine blk_drewN ?_ _ | refine blk_drew ?_ | refine blk_alloc ?_ _)); refine blk_far ?_ NB200_222.out _; (with_reducible repeat (first | refine blk_drewN ?_ _ | refine blk_drew ?_ | refine blk_alloc ?_ _)); exact BK200.out) hb); have n2_ := Aside0.mk (blk_below (g := gb208) (o := .cells #[.int .u8 t201, .int .u8 t202, .int .u8 t203, .int .u8 t204, .int .u8 t205] 84 (0, 0)) (by (with_reducible repeat (first | refine blk_drewN ?_ _ | refine blk_drew ?_ | refine blk_alloc ?_ _)); refine blk_far ?_ NB208_222.out _; (with_reducible repeat (first | refine blk_drewN ?_ _ | refine blk_drew ?_ | refine blk_alloc ?_ _)); refine blk_far ?_ NB208_222.out _; (with_reducible repeat (first | refine blk_drewN ?_ _ | refine blk_drew ?_ | refine blk_alloc ?_ _)); refine blk_far ?_ NB208_222.out _; (with_reducible repeat (first | refine blk_drewN ?_ _ | refine blk_drew ?_ | refine blk_alloc ?_ _)); refine blk_far ?_ NB208_222.out _; (with_reducible repeat (first | refine blk_drewN ?_ _ | refine blk_drew ?_ | refine blk_alloc ?_ _)); refine blk_far ?_ NB208_222.out _; (with_reducible repeat (first | refine blk_drewN ?_ _ | refine blk_drew ?_ | refine blk_alloc ?_ _)); exact BK208.out) hb); have n3_ := Aside0.mk (blk_below (g := gb222) (o := .cells #[.bool ((Go.bits .and .u8 t204 128) != 0), .int .u8 (Go.bits .and .u8 t204 7), .int .u32 ((rd t213 0) % 4294967296), .int .u16 (IntKind.u16.wrap (rd t213 2)), .string (t214.extract 0 48)] 62 (0, 0)) (by (with_reducible repeat (first | refine blk_drewN ?_ _ | refine blk_drew ?_ | refine blk_alloc ?_ _)); refine blk_put (cs := #[.bool ((Go.bits .and .u8 t204 128) != 0), .int .u8 (Go.bits .and .u8 t204 7), .int .u32 ((rd t213 0) % 4294967296), .int .u16 (IntKind.u16.wrap (rd t213 2)), .string (⟨#[]⟩ : ByteArray)]) ?_ 4 _ rfl; (with_reducible repeat (first | refine blk_drewN ?_ _ | refine blk_drew ?_ | refine blk_alloc ?_ _)); refine blk_put (cs := #[.bool ((Go.bits .and .u8 t204 128) != 0), .int .u8 (Go.bits .and .u8 t204 7), .int .u32 ((rd t213 0) % 4294967296), .int .u16 0, .string (⟨#[]⟩ : ByteArray)]) ?_ 3 _ rfl; (with_reducible repeat (first | refine blk_drewN ?_ _ | refine blk_drew ?_ | refine blk_alloc ?_ _)); refine blk_put (cs := #[.bool ((Go.bits .and .u8 t204 128) != 0), .int .u8 (Go.bits .and .u8 t204 7), .int .u32 0, .int .u16 0, .string (⟨#[]⟩ : ByteArray)]) ?_ 2 _ rfl; (with_reducible repeat (first | refine blk_drewN ?_ _ | refine blk_drew ?_ | refine blk_alloc ?_ _)); refine blk_put (cs := #[.bool ((Go.bits .and .u8 t204 128) != 0), .int .u8 0, .int .u32 0, .int .u16 0, .string (⟨#[]⟩ : ByteArray)]) ?_ 1 _ rfl; (with_reducible repeat (first | refine blk_drewN ?_ _ | refine blk_drew ?_ | refine blk_alloc ?_ _)); refine blk_put (cs := #[.bool false, .int .u8 0, .int .u32 0, .int .u16 0, .string (⟨#[]⟩ : ByteArray)]) ?_ 0 _ rfl; (with_reducible repeat (first | refine blk_drewN ?_ _ | refine blk_drew ?_ | refine blk_alloc ?_ _)); exact BK222.out) hb); have n4_ := Aside0.mk (below_step (by repeat (first | (with_reducible first | exact HB.out | apply below_alloc | apply pw_below_drewN | apply below_drew1 | refine below_set ?_ GE200.out | refine below_set ?_ GE208.out | refine below_set ?_ GE222.out) | exact HB.out)) hb); clear HO_9; clear BK200; clear BK208; clear BK222; clear HB; have HO_9 := n0_; have BK200 := n1_; have BK208 := n2_; have BK222 := n3_; have HB := n4_; clear n0_ n1_ n2_ n3_ n4_; (try clear hb); (try clear hb2); (try clear hk); (try clear hi); have hcz56_0 : w55.cell? ⟨gb222, 0, none⟩ = some (.bool ((Go.bits .and .u8 t204 128) != 0)) := (blk_cell BK222.out 0).trans rfl; have hcz56_1 : w55.cell? ⟨gb222, 1, none⟩ = some (.int .u8 (Go.bits .and .u8 t204 7)) := (blk_cell BK222.out 1).trans rfl; have hcz56_2 : w55.cell? ⟨gb222, 2, none⟩ = some (.int .u32 ((rd t213 0) % 4294967296)) := (blk_cell BK222.out 2).trans rfl; have hcz56_3 : w55.cell? ⟨gb222, 3, none⟩ = some (.int .u16 (IntKind.u16.wrap (rd t213 2))) := (blk_cell BK222.out 3).trans rfl; have hcz56_4 : w55.cell? ⟨gb222, 4, none⟩ = some (.string (t214.extract 0 48)) := (blk_cell BK222.out 4).trans rfl; have hfz56_0 := blk_frozen BK222.out 0; have hfz56_1 := blk_frozen BK222.out 1; have hfz56_2 := blk_frozen BK222.out 2; have hfz56_3 := blk_frozen BK222.out 3; have hfz56_4 := blk_frozen BK222.out 4; have hnb57 := NB200_208.out; have hnc57 := NB208_200.out; have hcz58_0 : w55.cell? ⟨gb200, 0, none⟩ = some (.bool false) := (blk_cell BK200.out 0).trans rfl; have hcz58_1 : w55.cell? ⟨gb200, 1, none⟩ = some (.int .u8 0) := (blk_cell BK200.out 1).trans rfl; have hcz58_2 : w55.cell? ⟨gb200, 2, none⟩ = some (.int .u32 0) := (blk_cell BK200.out 2).trans rfl; have hcz58_3 : w55.cell? ⟨gb200, 3, none⟩ = some (.int .u16 0) := (blk_cell BK200.out 3).trans rfl; have hcz58_4 : w55.cell? ⟨gb200, 4, none⟩ = some (.string (⟨#[]⟩ : ByteArray)) := (blk_cell BK200.out 4).trans rfl; have hfz58_0 := blk_frozen BK200.out 0; have hfz58_1 := blk_frozen BK200.out 1; have hfz58_2 := blk_frozen BK200.out 2; have hfz58_3 := blk_frozen BK200.out 3; have hfz58_4 := blk_frozen BK200.out 4))
                          refine bodyPost_ret (results_ct rfl _ _ gb200 62 #[.bool ((Go.bits .and .u8 t204 128) != 0), .int .u8 (Go.bits .and .u8 t204 7), .int .u32 ((rd t213 0) % 4294967296), .int .u16 (IntKind.u16.wrap (rd t213 2)), .string (t214.extract 0 48)] (0, 0) _ rfl (by (with_reducible repeat (first | refine blk_drewN ?_ _ | refine blk_drew ?_ | refine blk_alloc ?_ _)); refine blk_put (cs := #[.bool ((Go.bits .and .u8 t204 128) != 0), .int .u8 (Go.bits .and .u8 t204 7), .int .u32 ((rd t213 0) % 4294967296), .int .u16 (IntKind.u16.wrap (rd t213 2)), .string (⟨#[]⟩ : ByteArray)]) ?_ 4 _ rfl; (with_reducible repeat (first | refine blk_drewN ?_ _ | refine blk_drew ?_ | refine blk_alloc ?_ _)); refine blk_put (cs := #[.bool ((Go.bits .and .u8 t204 128) != 0), .int .u8 (Go.bits .and .u8 t204 7), .int .u32 ((rd t213 0) % 4294967296), .int .u16 0, .string (⟨#[]⟩ : ByteArray)]) ?_ 3 _ rfl; (with_reducible repeat (first | refine blk_drewN ?_ _ | refine blk_drew ?_ | refine blk_alloc ?_ _)); refine blk_put (cs := #[.bool ((Go.bits .and .u8 t204 128) != 0), .int .u8 (Go.bits .and .u8 t204 7), .int .u32 0, .int .u16 0, .string (⟨#[]⟩ : ByteArray)]) ?_ 2 _ rfl; (with_reducible repeat (first | refine blk_drewN ?_ _ | refine blk_drew ?_ | refine blk_alloc ?_ _)); refine blk_put (cs := #[.bool ((Go.bits .and .u8 t204 128) != 0), .int .u8 0, .int .u32 0, .int .u16 0, .string (⟨#[]⟩ : ByteArray)]) ?_ 1 _ rfl; (with_reducible repeat (first | refine blk_drewN ?_ _ | refine blk_drew ?_ | refine blk_alloc ?_ _)); refine blk_put (cs := #[.bool false, .int .u8 0, .int .u32 0, .int .u16 0, .string (⟨#[]⟩ : ByteArray)]) ?_ 0 _ rfl; (with_reducible repeat (first | refine blk_drewN ?_ _ | refine blk_drew ?_ | refine blk_alloc ?_ _)); exact BK200.out) Try.underlying62 rfl (by kernel_rfl)) rfl ?_
                          exact ⟨by first | rfl | (simp [errW_none, errW_some] <;> rfl) | (simp [*, errW_none, errW_some] <;> rfl), by repeat (first | (with_reducible first | exact HB.out | apply below_alloc | apply pw_below_drewN | apply below_drew1 | refine below_set ?_ GE200.out | refine below_set ?_ GE208.out | refine below_set ?_ GE222.out) | exact HB.out)⟩
                        · rw [if_neg c43] at H
                          have c43b0 : (t223 == 0) = false := beq_eq_false_iff_ne.mpr c43
                          have c43b1 : (t223 != 0) = true := bne_iff_ne.mpr c43
                          simp only [Option.some.injEq, Prod.mk.injEq] at H
                          obtain ⟨rfl, rfl, rfl, rfl, rfl, rfl⟩ := H
                          try go_wp2
                          have n0_ := Aside0.mk (Kd.R_drew HO_9.out)
                          have n1_ := Aside0.mk (blk_drew BK200.out)
                          have n2_ := Aside0.mk (blk_drew BK208.out)
                          have n3_ := Aside0.mk (below_drew1 HB.out)
                          clear HO_9
                          clear BK200
                          clear BK208
                          clear HB
                          have HO_9 := n0_
                          have BK200 := n1_
                          have BK208 := n2_
                          have HB := n3_
                          clear n0_ n1_ n2_ n3_
                          obtain ⟨Ao60, co60, eo60⟩ := Kd.R_slice HO_9.out
                          (first | subst eo60 | (injection eo60 with f1_ f2_ f3_; have f4_ := f1_.symm; have f5_ := f3_.symm; clear f1_ f2_ f3_; subst f4_; subst f5_))
                          have p220 : 0 ≤ (0 : Int) := (by omega)
                          have q220 : 0 < (t213.length : Int) := of_decide_eq_true (by first | (with_reducible assumption) | assumption)
                          obtain ⟨ad220, e220, hx220_0⟩ := Kd.at_int (Kd.R_reads' HO_9.out).2.2 0 p220 q220
                          cases e220
                          have qi220 : (0 < t213.length) = True := eq_true (by omega)
                          (try rw [show ((0 : Int)).toNat = 0 from rfl] at hx220_0)
                          (try rw [Addr.add_zero'] at hx220_0)
                          replace p220 := eq_true p220
                          replace q220 := eq_true q220
                          have p221 : 0 ≤ (2 : Int) := (by omega)
                          have q221 : 2 < (t213.length : Int) := of_decide_eq_true (by first | (with_reducible assumption) | assumption)
                          obtain ⟨ad221, e221, hx221_0⟩ := Kd.at_int (Kd.R_reads' HO_9.out).2.2 2 p221 q221
                          obtain rfl : ad220 = ad221 := (by injection e221)
                          (try simp only [show (2 : Int).toNat = 2 from rfl, Nat.reduceMul, Nat.reduceEqDiff, Go.Addr.add, ↓reduceIte] at hx221_0)
                          have qi221 : (2 < t213.length) = True := eq_true (by omega)
                          (try rw [show ((2 : Int)).toNat = 2 from rfl] at hx221_0)
                          replace p221 := eq_true p221
                          replace q221 := eq_true q221
                          refine start_ (n := 20) (S := fun w' => w'.cell? ⟨gb208, 0, none⟩ = some (.int .u8 t201) ∧ w'.cell? ⟨gb208, 1, none⟩ = some (.int .u8 t202) ∧ w'.cell? ⟨gb208, 2, none⟩ = some (.int .u8 t203) ∧ w'.cell? ⟨gb208, 3, none⟩ = some (.int .u8 t204) ∧ w'.cell? ⟨gb208, 4, none⟩ = some (.int .u8 t205) ∧ w'.cell? ad220 = some (.int .u64 (rd t213 0)) ∧ w'.cell? ⟨ad220.block, ad220.off + 2, none⟩ = some (.int .u64 (rd t213 2))) (ds := []) #[false, false, false, false, false, false, false, false, false, false, false, false, false, false, false, false, false, false, false, false] (by kernel_rfl) rfl rfl ⟨(blk_cell BK208.out 0).trans rfl, (blk_cell BK208.out 1).trans rfl, (blk_cell BK208.out 2).trans rfl, (blk_cell BK208.out 3).trans rfl, (blk_cell BK208.out 4).trans rfl, hx220_0, hx221_0⟩ (fun hHeld => ?_); refine with_tabW ccm_Open.tab11 ccm_Open.bits11 (fun HT_ HW_ => ?_)
                          generalize wc.drew = w59 at HO_9 BK200 BK208 HB hx220_0 hx221_0 hHeld ⊢
                          refine pure_ (i := 0) (N := some 58) (v := ?_) (a' := ?_) #[true, false, false, false, false, false, false, false, false, false, false, false, false, false, false, false, false, false, false, false] rfl rfl (any_of HT_.out (by kernel_rfl)) (fun _ _ _ h => h) (Or.inl ⟨by rfl, ?_⟩) ?_ ?_
                          rotate_left
                          · intro w'
                            go_simp
                            with_reducible rfl
                          rotate_left
                          · simp only [Act.put, List.setIfInBounds_toArray, List.set_cons_zero, List.set_cons_succ, i64_w, i32_w]
                            rfl
                          refine pure_ (i := 4) (N := some 62) (v := ?_) (a' := ?_) #[true, false, false, false, true, false, false, false, false, false, false, false, false, false, false, false, false, false, false, false] rfl rfl (any_of HT_.out (by kernel_rfl)) (fun _ _ _ h => h) (Or.inl ⟨by rfl, ?_⟩) ?_ ?_
                          rotate_left
                          · intro w'
                            go_simp
                            with_reducible rfl
                          rotate_left
                          · simp only [Act.put, List.setIfInBounds_toArray, List.set_cons_zero, List.set_cons_succ, i64_w, i32_w]
                            rfl
                          refine pure_ (i := 7) (N := some 65) (v := ?_) (a' := ?_) #[true, false, false, false, true, false, false, true, false, false, false, false, false, false, false, false, false, false, false, false] rfl rfl (any_of HT_.out (by kernel_rfl)) (fun _ _ _ h => h) (Or.inl ⟨by rfl, ?_⟩) ?_ ?_
                          rotate_left
                          · intro w'
                            go_simp
                            with_reducible rfl
                          rotate_left
                          · simp only [Act.put, List.setIfInBounds_toArray, List.set_cons_zero, List.set_cons_succ, i64_w, i32_w]
                            rfl
                          refine pure_ (i := 8) (N := some 66) (v := ?_) (a' := ?_) #[true, false, false, false, true, false, false, true, true, false, false, false, false, false, false, false, false, false, false, false] rfl rfl (any_of HT_.out (by kernel_rfl)) (fun _ _ _ h => h) (Or.inl ⟨by rfl, ?_⟩) ?_ ?_
                          rotate_left
                          · intro w'
                            go_simp
                            with_reducible rfl
                          rotate_left
                          · simp only [Act.put, List.setIfInBounds_toArray, List.set_cons_zero, List.set_cons_succ, i64_w, i32_w]
                            rfl
                          refine pure_ (i := 11) (N := some 69) (v := ?_) (a' := ?_) #[true, false, false, false, true, false, false, true, true, false, false, true, false, false, false, false, false, false, false, false] rfl rfl (any_of HT_.out (by kernel_rfl)) (fun _ _ _ h => h) (Or.inl ⟨by rfl, ?_⟩) ?_ ?_
                          rotate_left
                          · intro w'
                            go_simp
                            with_reducible rfl
                          rotate_left
                          · simp only [Act.put, List.setIfInBounds_toArray, List.set_cons_zero, List.set_cons_succ, i64_w, i32_w]
                            rfl
                          refine pure_ (i := 12) (N := some 70) (v := ?_) (a' := ?_) #[true, false, false, false, true, false, false, true, true, false, false, true, true, false, false, false, false, false, false, false] rfl rfl (any_of HT_.out (by kernel_rfl)) (fun _ _ _ h => h) (Or.inl ⟨by rfl, ?_⟩) ?_ ?_
                          rotate_left
                          · intro w'
                            go_simp
                            with_reducible rfl
                          rotate_left
                          · simp only [Act.put, List.setIfInBounds_toArray, List.set_cons_zero, List.set_cons_succ, i64_w, i32_w]
                            rfl
                          refine pure_ (i := 15) (N := some 73) (v := ?_) (a' := ?_) #[true, false, false, false, true, false, false, true, true, false, false, true, true, false, false, true, false, false, false, false] rfl rfl (any_of HT_.out (by kernel_rfl)) (fun _ _ _ h => h) (Or.inl ⟨by rfl, ?_⟩) ?_ ?_
                          rotate_left
                          · intro w'
                            go_simp
                            with_reducible rfl
                          rotate_left
                          · simp only [Act.put, List.setIfInBounds_toArray, List.set_cons_zero, List.set_cons_succ, i64_w, i32_w]
                            rfl
                          refine pure_ (i := 16) (N := some 74) (v := ?_) (a' := ?_) #[true, false, false, false, true, false, false, true, true, false, false, true, true, false, false, true, true, false, false, false] rfl rfl (any_of HT_.out (by kernel_rfl)) (fun _ _ _ h => h) (Or.inl ⟨by rfl, ?_⟩) ?_ ?_
                          rotate_left
                          · intro w'
                            go_simp
                            with_reducible rfl
                          rotate_left
                          · simp only [Act.put, List.setIfInBounds_toArray, List.set_cons_zero, List.set_cons_succ, i64_w, i32_w]
                            rfl
                          refine take_ (i := 1) (N := some 59) (v := ?_) (a' := ?_) #[true, true, false, false, true, false, false, true, true, false, false, true, true, false, false, true, true, false, false, false] rfl rfl (take_ofW HT_.out HW_.out (by kernel_rfl)) (fun _ _ _ h => h) (Or.inl ⟨by rfl, ?_⟩) hHeld ?_ ?_
                          rotate_left
                          · rintro w' ⟨s0, s1, s2, s3, s4, s5, s6⟩
                            go_simp
                            with_reducible rfl
                          rotate_left
                          · simp only [Act.put, List.setIfInBounds_toArray, List.set_cons_zero, List.set_cons_succ, i64_w, i32_w]
                            rfl
                          refine pure_ (i := 2) (N := some 60) (v := ?_) (a' := ?_) #[true, true, true, false, true, false, false, true, true, false, false, true, true, false, false, true, true, false, false, false] rfl rfl (any_of HT_.out (by kernel_rfl)) (fun _ _ _ h => h) (Or.inl ⟨by rfl, ?_⟩) ?_ ?_
                          rotate_left
                          · intro w'
                            go_simp
                            with_reducible rfl
                          rotate_left
                          · simp only [Act.put, List.setIfInBounds_toArray, List.set_cons_zero, List.set_cons_succ, i64_w, i32_w]
                            rfl
                          refine pure_ (i := 3) (N := some 61) (v := ?_) (a' := ?_) #[true, true, true, true, true, false, false, true, true, false, false, true, true, false, false, true, true, false, false, false] rfl rfl (any_of HT_.out (by kernel_rfl)) (fun _ _ _ h => h) (Or.inl ⟨by rfl, ?_⟩) ?_ ?_
                          rotate_left
                          · intro w'
                            go_simp
                            with_reducible rfl
                          rotate_left
                          · simp only [Act.put, List.setIfInBounds_toArray, List.set_cons_zero, List.set_cons_succ, i64_w, i32_w]
                            rfl
                          refine take_ (i := 5) (N := some 63) (v := ?_) (a' := ?_) #[true, true, true, true, true, true, false, true, true, false, false, true, true, false, false, true, true, false, false, false] rfl rfl (take_ofW HT_.out HW_.out (by kernel_rfl)) (fun _ _ _ h => h) (Or.inl ⟨by rfl, ?_⟩) hHeld ?_ ?_
                          rotate_left
                          · rintro w' ⟨s0, s1, s2, s3, s4, s5, s6⟩
                            go_simp
                            with_reducible rfl
                          rotate_left
                          · simp only [Act.put, List.setIfInBounds_toArray, List.set_cons_zero, List.set_cons_succ, i64_w, i32_w]
                            rfl
                          refine pure_ (i := 6) (N := some 64) (v := ?_) (a' := ?_) #[true, true, true, true, true, true, true, true, true, false, false, true, true, false, false, true, true, false, false, false] rfl rfl (any_of HT_.out (by kernel_rfl)) (fun _ _ _ h => h) (Or.inl ⟨by rfl, ?_⟩) ?_ ?_
                          rotate_left
                          · intro w'
                            go_simp
                            with_reducible rfl
                          rotate_left
                          · simp only [Act.put, List.setIfInBounds_toArray, List.set_cons_zero, List.set_cons_succ, i64_w, i32_w]
                            rfl
                          refine take_ (i := 9) (N := some 67) (v := ?_) (a' := ?_) #[true, true, true, true, true, true, true, true, true, true, false, true, true, false, false, true, true, false, false, false] rfl rfl (take_ofW HT_.out HW_.out (by kernel_rfl)) (fun _ _ _ h => h) (Or.inl ⟨by rfl, ?_⟩) hHeld ?_ ?_
                          rotate_left
                          · rintro w' ⟨s0, s1, s2, s3, s4, s5, s6⟩
                            go_simp
                            with_reducible rfl
                          rotate_left
                          · simp only [Act.put, List.setIfInBounds_toArray, List.set_cons_zero, List.set_cons_succ, i64_w, i32_w]
                            rfl
                          refine pure_ (i := 10) (N := some 68) (v := ?_) (a' := ?_) #[true, true, true, true, true, true, true, true, true, true, true, true, true, false, false, true, true, false, false, false] rfl rfl (any_of HT_.out (by kernel_rfl)) (fun _ _ _ h => h) (Or.inl ⟨by rfl, ?_⟩) ?_ ?_
                          rotate_left
                          · intro w'
                            go_simp
                            with_reducible rfl
                          rotate_left
                          · simp only [Act.put, List.setIfInBounds_toArray, List.set_cons_zero, List.set_cons_succ, i64_w, i32_w]
                            rfl
                          refine take_ (i := 13) (N := some 71) (v := ?_) (a' := ?_) #[true, true, true, true, true, true, true, true, true, true, true, true, true, true, false, true, true, false, false, false] rfl rfl (take_ofW HT_.out HW_.out (by kernel_rfl)) (fun _ _ _ h => h) (Or.inl ⟨by rfl, ?_⟩) hHeld ?_ ?_
                          rotate_left
                          · rintro w' ⟨s0, s1, s2, s3, s4, s5, s6⟩
                            go_simp
                            with_reducible rfl
                          rotate_left
                          · simp only [Act.put, List.setIfInBounds_toArray, List.set_cons_zero, List.set_cons_succ, i64_w, i32_w]
                            rfl
                          refine pure_ (i := 14) (N := some 72) (v := ?_) (a' := ?_) #[true, true, true, true, true, true, true, true, true, true, true, true, true, true, true, true, true, false, false, false] rfl rfl (any_of HT_.out (by kernel_rfl)) (fun _ _ _ h => h) (Or.inl ⟨by rfl, ?_⟩) ?_ ?_
                          rotate_left
                          · intro w'
                            go_simp
                            with_reducible rfl
                          rotate_left
                          · simp only [Act.put, List.setIfInBounds_toArray, List.set_cons_zero, List.set_cons_succ, i64_w, i32_w]
                            rfl
                          refine pure_ (i := 17) (N := some 75) (v := ?_) (a' := ?_) #[true, true, true, true, true, true, true, true, true, true, true, true, true, true, true, true, true, true, false, false] rfl rfl (any_of HT_.out (by kernel_rfl)) (fun _ _ _ h => h) (Or.inl ⟨by rfl, ?_⟩) ?_ ?_
                          rotate_left
                          · intro w'
                            go_simp
                            with_reducible rfl
                          rotate_left
                          · simp only [Act.put, List.setIfInBounds_toArray, List.set_cons_zero, List.set_cons_succ, i64_w, i32_w]
                            rfl
                          refine one_ (i := 18) (N := some 11) #[true, true, true, true, true, true, true, true, true, true, true, true, true, true, true, true, true, true, true, false] rfl rfl (one_of HT_.out (by kernel_rfl)) (by decide) (fun K hK => ?_)
                          refine box_step ?hg (N := 11) ?hd (cs := #[.bool false, .int .u8 0, .int .u32 0, .int .u16 0, .string (⟨#[]⟩ : ByteArray)]) (t := 62) ?hr ?_; (case hd => rfl); (case hg => rfl); (case hr => first | (go_simp; done) | (go_simp; rfl))
                          intro gb222 hg w61 hbox hb
                          have HS5_ := (hb.cell (World.block_lt_of_cell? _ _ (hHeld.2.2.2.2.2.1))).trans (hHeld.2.2.2.2.2.1)
                          have HS6_ := (hb.cell (World.block_lt_of_cell? _ _ (hHeld.2.2.2.2.2.2))).trans (hHeld.2.2.2.2.2.2)
                          have n0_ := Aside0.mk (Kd.R_below (by (with_reducible repeat (first | apply Kd.R_alloc | apply Kd.R_drewN | apply Kd.R_drew)); exact HO_9.out) hb)
                          have n1_ := Aside0.mk (blk_below (g := gb200) (o := .cells #[.bool false, .int .u8 0, .int .u32 0, .int .u16 0, .string (⟨#[]⟩ : ByteArray)] 62 (0, 0)) (by (with_reducible repeat (first | refine blk_drewN ?_ _ | refine blk_drew ?_ | refine blk_alloc ?_ _)); exact BK200.out) hb)
                          have n2_ := Aside0.mk (blk_below (g := gb208) (o := .cells #[.int .u8 t201, .int .u8 t202, .int .u8 t203, .int .u8 t204, .int .u8 t205] 84 (0, 0)) (by (with_reducible repeat (first | refine blk_drewN ?_ _ | refine blk_drew ?_ | refine blk_alloc ?_ _)); exact BK208.out) hb)
                          have n3_ := Aside0.mk (below_step (by repeat (first | (with_reducible first | exact HB.out | apply below_alloc | apply pw_below_drewN | apply below_drew1 | refine below_set ?_ GE200.out | refine below_set ?_ GE208.out) | exact HB.out)) hb)
                          have n4_ := Aside0.mk (hbox)
                          have n5_ := Aside0.mk ((by rw [hg]; exact (below_size (by repeat (first | (with_reducible first | exact HB.out | apply below_alloc | apply pw_below_drewN | apply below_drew1 | refine below_set ?_ GE200.out | refine below_set ?_ GE208.out) | exact HB.out))) : w.heap.size ≤ gb222))
                          have n6_ := Aside0.mk ((by rw [hg]; exact (below_size (by repeat (first | (with_reducible first | exact HB.out | apply below_alloc | apply pw_below_drewN | apply below_drew1 | refine below_set ?_ GE200.out | refine below_set ?_ GE208.out) | exact HB.out))) : w.heap.size ≤ gb222))
                          have n7_ := Aside0.mk ((by rw [hg]; exact Nat.ne_of_lt (blk_lt (g := gb200) (o := .cells #[.bool false, .int .u8 0, .int .u32 0, .int .u16 0, .string (⟨#[]⟩ : ByteArray)] 62 (0, 0)) (by (with_reducible repeat (first | refine blk_drewN ?_ _ | refine blk_drew ?_ | refine blk_alloc ?_ _)); exact BK200.out)) : gb200 ≠ gb222))
                          have n8_ := Aside0.mk ((by rw [hg]; exact Nat.ne_of_gt (blk_lt (g := gb200) (o := .cells #[.bool false, .int .u8 0, .int .u32 0, .int .u16 0, .string (⟨#[]⟩ : ByteArray)] 62 (0, 0)) (by (with_reducible repeat (first | refine blk_drewN ?_ _ | refine blk_drew ?_ | refine blk_alloc ?_ _)); exact BK200.out)) : gb222 ≠ gb200))
                          have n9_ := Aside0.mk ((by rw [hg]; exact Nat.ne_of_lt (blk_lt (g := gb208) (o := .cells #[.int .u8 t201, .int .u8 t202, .int .u8 t203, .int .u8 t204, .int .u8 t205] 84 (0, 0)) (by (with_reducible repeat (first | refine blk_drewN ?_ _ | refine blk_drew ?_ | refine blk_alloc ?_ _)); exact BK208.out)) : gb208 ≠ gb222))
                          have n10_ := Aside0.mk ((by rw [hg]; exact Nat.ne_of_gt (blk_lt (g := gb208) (o := .cells #[.int .u8 t201, .int .u8 t202, .int .u8 t203, .int .u8 t204, .int .u8 t205] 84 (0, 0)) (by (with_reducible repeat (first | refine blk_drewN ?_ _ | refine blk_drew ?_ | refine blk_alloc ?_ _)); exact BK208.out)) : gb222 ≠ gb208))
                          clear HO_9
                          clear BK200
                          clear BK208
                          clear HB
                          have HO_9 := n0_
                          have BK200 := n1_
                          have BK208 := n2_
                          have HB := n3_
                          have BK222 := n4_
                          have GW222 := n5_
                          have GE222 := n6_
                          have NB200_222 := n7_
                          have NB222_200 := n8_
                          have NB208_222 := n9_
                          have NB222_208 := n10_
                          clear n0_ n1_ n2_ n3_ n4_ n5_ n6_ n7_ n8_ n9_ n10_
                          clear hb hbox hg
                          refine hK.out _ _ ⟨(blk_cell BK208.out 0).trans rfl, (blk_cell BK208.out 1).trans rfl, (blk_cell BK208.out 2).trans rfl, (blk_cell BK208.out 3).trans rfl, (blk_cell BK208.out 4).trans rfl, HS5_, HS6_⟩ (fun hHeld => ?_)
                          clear hK K
                          refine norm_ (a' := ?_) ?_ ?_
                          rotate_left
                          · show Act.put _ (some 11) _ = _
                            simp only [Act.put, List.setIfInBounds_toArray, List.set_cons_zero, List.set_cons_succ, i64_w, i32_w]
                            rfl
                          refine one_ (i := 19) (N := none) #[true, true, true, true, true, true, true, true, true, true, true, true, true, true, true, true, true, true, true, true] rfl rfl (one_of HT_.out (by kernel_rfl)) (by decide) (fun K hK => ?_)
                          have hs62 : w61.cell? ⟨gb222, 0, none⟩ = some (.bool false) := (blk_cell BK222.out 0).trans rfl
                          have hfs62 := blk_frozen BK222.out 0
                          have hns62_0 := NB200_222.out
                          have hns62_1 := NB208_222.out
                          have hms62_0 := NB222_200.out
                          have hms62_1 := NB222_208.out
                          have hs63 : w61.cell? ⟨gb222, 1, none⟩ = some (.int .u8 0) := (blk_cell BK222.out 1).trans rfl
                          have hfs63 := blk_frozen BK222.out 1
                          have hns63_0 := NB200_222.out
                          have hns63_1 := NB208_222.out
                          have hms63_0 := NB222_200.out
                          have hms63_1 := NB222_208.out
                          have hs64 : w61.cell? ⟨gb222, 2, none⟩ = some (.int .u32 0) := (blk_cell BK222.out 2).trans rfl
                          have hfs64 := blk_frozen BK222.out 2
                          have hns64_0 := NB200_222.out
                          have hns64_1 := NB208_222.out
                          have hms64_0 := NB222_200.out
                          have hms64_1 := NB222_208.out
                          have hs65 : w61.cell? ⟨gb222, 3, none⟩ = some (.int .u16 0) := (blk_cell BK222.out 3).trans rfl
                          have hfs65 := blk_frozen BK222.out 3
                          have hns65_0 := NB200_222.out
                          have hns65_1 := NB208_222.out
                          have hms65_0 := NB222_200.out
                          have hms65_1 := NB222_208.out
                          have hs66 : w61.cell? ⟨gb222, 4, none⟩ = some (.string (⟨#[]⟩ : ByteArray)) := (blk_cell BK222.out 4).trans rfl
                          have hfs66 := blk_frozen BK222.out 4
                          have hns66_0 := NB200_222.out
                          have hns66_1 := NB208_222.out
                          have hms66_0 := NB222_200.out
                          have hms66_1 := NB222_208.out
                          refine skip_ (w1 := ?_) (by rfl) rfl ?_ ?_
                          rotate_left
                          · go_simp
                            rfl
                          refine hK.out _ _ ⟨((cell_far (p := ⟨gb222, _, none⟩) NB208_222.out _).trans (((cell_far (p := ⟨gb222, _, none⟩) NB208_222.out _).trans (((cell_far (p := ⟨gb222, _, none⟩) NB208_222.out _).trans (((cell_far (p := ⟨gb222, _, none⟩) NB208_222.out _).trans (((cell_far (p := ⟨gb222, _, none⟩) NB208_222.out _).trans (hHeld.1)))))))))), ((cell_far (p := ⟨gb222, _, none⟩) NB208_222.out _).trans (((cell_far (p := ⟨gb222, _, none⟩) NB208_222.out _).trans (((cell_far (p := ⟨gb222, _, none⟩) NB208_222.out _).trans (((cell_far (p := ⟨gb222, _, none⟩) NB208_222.out _).trans (((cell_far (p := ⟨gb222, _, none⟩) NB208_222.out _).trans (hHeld.2.1)))))))))), ((cell_far (p := ⟨gb222, _, none⟩) NB208_222.out _).trans (((cell_far (p := ⟨gb222, _, none⟩) NB208_222.out _).trans (((cell_far (p := ⟨gb222, _, none⟩) NB208_222.out _).trans (((cell_far (p := ⟨gb222, _, none⟩) NB208_222.out _).trans (((cell_far (p := ⟨gb222, _, none⟩) NB208_222.out _).trans (hHeld.2.2.1)))))))))), ((cell_far (p := ⟨gb222, _, none⟩) NB208_222.out _).trans (((cell_far (p := ⟨gb222, _, none⟩) NB208_222.out _).trans (((cell_far (p := ⟨gb222, _, none⟩) NB208_222.out _).trans (((cell_far (p := ⟨gb222, _, none⟩) NB208_222.out _).trans (((cell_far (p := ⟨gb222, _, none⟩) NB208_222.out _).trans (hHeld.2.2.2.1)))))))))), ((cell_far (p := ⟨gb222, _, none⟩) NB208_222.out _).trans (((cell_far (p := ⟨gb222, _, none⟩) NB208_222.out _).trans (((cell_far (p := ⟨gb222, _, none⟩) NB208_222.out _).trans (((cell_far (p := ⟨gb222, _, none⟩) NB208_222.out _).trans (((cell_far (p := ⟨gb222, _, none⟩) NB208_222.out _).trans (hHeld.2.2.2.2.1)))))))))), ((cell_far (p := ⟨gb222, _, none⟩) (by first | exact Kd.own_blk (Kd.R_ne HO_9.out BK222.out (by decide)) | (rw [add_block]; exact Kd.own_blk (Kd.R_ne HO_9.out BK222.out (by decide))) | (show (Addr.add _ _).block ≠ _; rw [add_block]; exact Kd.own_blk (Kd.R_ne HO_9.out BK222.out (by decide))) | (dsimp only; exact Kd.own_blk (Kd.R_ne HO_9.out BK222.out (by decide)))) _).trans (((cell_far (p := ⟨gb222, _, none⟩) (by first | exact Kd.own_blk (Kd.R_ne HO_9.out BK222.out (by decide)) | (rw [add_block]; exact Kd.own_blk (Kd.R_ne HO_9.out BK222.out (by decide))) | (show (Addr.add _ _).block ≠ _; rw [add_block]; exact Kd.own_blk (Kd.R_ne HO_9.out BK222.out (by decide))) | (dsimp only; exact Kd.own_blk (Kd.R_ne HO_9.out BK222.out (by decide)))) _).trans (((cell_far (p := ⟨gb222, _, none⟩) (by first | exact Kd.own_blk (Kd.R_ne HO_9.out BK222.out (by decide)) | (rw [add_block]; exact Kd.own_blk (Kd.R_ne HO_9.out BK222.out (by decide))) | (show (Addr.add _ _).block ≠ _; rw [add_block]; exact Kd.own_blk (Kd.R_ne HO_9.out BK222.out (by decide))) | (dsimp only; exact Kd.own_blk (Kd.R_ne HO_9.out BK222.out (by decide)))) _).trans (((cell_far (p := ⟨gb222, _, none⟩) (by first | exact Kd.own_blk (Kd.R_ne HO_9.out BK222.out (by decide)) | (rw [add_block]; exact Kd.own_blk (Kd.R_ne HO_9.out BK222.out (by decide))) | (show (Addr.add _ _).block ≠ _; rw [add_block]; exact Kd.own_blk (Kd.R_ne HO_9.out BK222.out (by decide))) | (dsimp only; exact Kd.own_blk (Kd.R_ne HO_9.out BK222.out (by decide)))) _).trans (((cell_far (p := ⟨gb222, _, none⟩) (by first | exact Kd.own_blk (Kd.R_ne HO_9.out BK222.out (by decide)) | (rw [add_block]; exact Kd.own_blk (Kd.R_ne HO_9.out BK222.out (by decide))) | (show (Addr.add _ _).block ≠ _; rw [add_block]; exact Kd.own_blk (Kd.R_ne HO_9.out BK222.out (by decide))) | (dsimp only; exact Kd.own_blk (Kd.R_ne HO_9.out BK222.out (by decide)))) _).trans (hHeld.2.2.2.2.2.1)))))))))), ((cell_far (p := ⟨gb222, _, none⟩) (by first | exact Kd.own_blk (Kd.R_ne HO_9.out BK222.out (by decide)) | (rw [add_block]; exact Kd.own_blk (Kd.R_ne HO_9.out BK222.out (by decide))) | (show (Addr.add _ _).block ≠ _; rw [add_block]; exact Kd.own_blk (Kd.R_ne HO_9.out BK222.out (by decide))) | (dsimp only; exact Kd.own_blk (Kd.R_ne HO_9.out BK222.out (by decide)))) _).trans (((cell_far (p := ⟨gb222, _, none⟩) (by first | exact Kd.own_blk (Kd.R_ne HO_9.out BK222.out (by decide)) | (rw [add_block]; exact Kd.own_blk (Kd.R_ne HO_9.out BK222.out (by decide))) | (show (Addr.add _ _).block ≠ _; rw [add_block]; exact Kd.own_blk (Kd.R_ne HO_9.out BK222.out (by decide))) | (dsimp only; exact Kd.own_blk (Kd.R_ne HO_9.out BK222.out (by decide)))) _).trans (((cell_far (p := ⟨gb222, _, none⟩) (by first | exact Kd.own_blk (Kd.R_ne HO_9.out BK222.out (by decide)) | (rw [add_block]; exact Kd.own_blk (Kd.R_ne HO_9.out BK222.out (by decide))) | (show (Addr.add _ _).block ≠ _; rw [add_block]; exact Kd.own_blk (Kd.R_ne HO_9.out BK222.out (by decide))) | (dsimp only; exact Kd.own_blk (Kd.R_ne HO_9.out BK222.out (by decide)))) _).trans (((cell_far (p := ⟨gb222, _, none⟩) (by first | exact Kd.own_blk (Kd.R_ne HO_9.out BK222.out (by decide)) | (rw [add_block]; exact Kd.own_blk (Kd.R_ne HO_9.out BK222.out (by decide))) | (show (Addr.add _ _).block ≠ _; rw [add_block]; exact Kd.own_blk (Kd.R_ne HO_9.out BK222.out (by decide))) | (dsimp only; exact Kd.own_blk (Kd.R_ne HO_9.out BK222.out (by decide)))) _).trans (((cell_far (p := ⟨gb222, _, none⟩) (by first | exact Kd.own_blk (Kd.R_ne HO_9.out BK222.out (by decide)) | (rw [add_block]; exact Kd.own_blk (Kd.R_ne HO_9.out BK222.out (by decide))) | (show (Addr.add _ _).block ≠ _; rw [add_block]; exact Kd.own_blk (Kd.R_ne HO_9.out BK222.out (by decide))) | (dsimp only; exact Kd.own_blk (Kd.R_ne HO_9.out BK222.out (by decide)))) _).trans (hHeld.2.2.2.2.2.2))))))))))⟩ (fun hHeld => ?_)
                          clear hK K
                          refine done_ (done_of HT_.out (by kernel_rfl)) ?_
                          have hnb67 := NB222_200.out
                          have hnc67 := NB200_222.out
                          have hnb68 := NB222_208.out
                          have hnc68 := NB208_222.out
                          have hcz69_0 : w61.cell? ⟨gb222, 0, none⟩ = some (.bool false) := (blk_cell BK222.out 0).trans rfl
                          have hcz69_1 : w61.cell? ⟨gb222, 1, none⟩ = some (.int .u8 0) := (blk_cell BK222.out 1).trans rfl
                          have hcz69_2 : w61.cell? ⟨gb222, 2, none⟩ = some (.int .u32 0) := (blk_cell BK222.out 2).trans rfl
                          have hcz69_3 : w61.cell? ⟨gb222, 3, none⟩ = some (.int .u16 0) := (blk_cell BK222.out 3).trans rfl
                          have hcz69_4 : w61.cell? ⟨gb222, 4, none⟩ = some (.string (⟨#[]⟩ : ByteArray)) := (blk_cell BK222.out 4).trans rfl
                          have hfz69_0 := blk_frozen BK222.out 0
                          have hfz69_1 := blk_frozen BK222.out 1
                          have hfz69_2 := blk_frozen BK222.out 2
                          have hfz69_3 := blk_frozen BK222.out 3
                          have hfz69_4 := blk_frozen BK222.out 4
                          try go_wp2_with (first | ((with_reducible refine gate_callee (f := 47) rfl ?_); refine goesL_ (some 77) rfl rfl Try.func47 (by kernel_rfl) rfl #[.agg #[.bool ((Go.bits .and .u8 t204 128) != 0), .int .u8 (Go.bits .and .u8 t204 7), .int .u32 ((rd t213 0) % 4294967296), .int .u16 (IntKind.u16.wrap (rd t213 2)), .string (t214.extract 0 48)]] rfl (by (try simp only [List.map_toArray, List.map_cons, List.map_nil]); first | done | rfl | (simp only [List.length_drop, List.length_take]; rfl)) ?_; (with_reducible refine (ccm_Msg_wrong.calls kj17 ((Go.bits .and .u8 t204 128) != 0) (Go.bits .and .u8 t204 7) ((rd t213 0) % 4294967296) (IntKind.u16.wrap (rd t213 2)) (t214.extract 0 48) t223 _ A42.out).mono ?_); rintro e w70 ⟨rfl, hb⟩; refine ⟨_, rfl, ?_⟩; have n0_ := Aside0.mk (Kd.R_below (by (with_reducible repeat (first | apply Kd.R_alloc | apply Kd.R_drewN | apply Kd.R_drew)); exact (Kd.R_mono (Kd.R_far (p := ⟨gb222, 4, none⟩) (Kd.R_far (p := ⟨gb222, 3, none⟩) (Kd.R_far (p := ⟨gb222, 2, none⟩) (Kd.R_far (p := ⟨gb222, 1, none⟩) (Kd.R_far (p := ⟨gb222, 0, none⟩) (Kd.R_types HO_9.out BK222.out (by decide)) (fun _ hk => hk.2) (.bool ((Go.bits .and .u8 t204 128) != 0))) (fun _ hk => hk.2) (.int .u8 (Go.bits .and .u8 t204 7))) (fun _ hk => hk.2) (.int .u32 ((rd t213 0) % 4294967296))) (fun _ hk => hk.2) (.int .u16 (IntKind.u16.wrap (rd t213 2)))) (fun _ hk => hk.2) (.string (t214.extract 0 48))) (fun _ h_ => h_.1))) hb); have n1_ := Aside0.mk (blk_below (g := gb200) (o := .cells #[.bool false, .int .u8 0, .int .u32 0, .int .u16 0, .string (⟨#[]⟩ : ByteArray)] 62 (0, 0)) (by (with_reducible repeat (first | refine blk_drewN ?_ _ | refine blk_drew ?_ | refine blk_alloc ?_ _)); refine blk_far ?_ NB200_222.out _; (with_reducible repeat (first | refine blk_drewN ?_ _ | refine blk_drew ?_ | refine blk_alloc ?_ _)); refine blk_far ?_ NB200_222.out _; (with_reducible repeat (first | refine blk_drewN ?_ _ | refine blk_drew ?_ | refine blk_alloc ?_ _)); refine blk_far ?_ NB200_222.out _; (with_reducible repeat (first | refine blk_drewN ?_ _ | refine blk_drew ?_ | refine blk_alloc ?_ _)); refine blk_far ?_ NB200_222.out _; (with_reducible repeat (first | refine blk_drewN ?_ _ | refine blk_drew ?_ | refine blk_alloc ?_ _)); refine blk_far ?_ NB200_222.out _; (with_reducible repeat (first | refine blk_drewN ?_ _ | refine blk_drew ?_ | refine blk_alloc ?_ _)); exact BK200.out) hb); have n2_ := Aside0.mk (blk_below (g := gb208) (o := .cells #[.int .u8 t201, .int .u8 t202, .int .u8 t203, .int .u8 t204, .int .u8 t205] 84 (0, 0)) (by (with_reducible repeat (first | refine blk_drewN ?_ _ | refine blk_drew ?_ | refine blk_alloc ?_ _)); refine blk_far ?_ NB208_222.out _; (with_reducible repeat (first | refine blk_drewN ?_ _ | refine blk_drew ?_ | refine blk_alloc ?_ _)); refine blk_far ?_ NB208_222.out _; (with_reducible repeat (first | refine blk_drewN ?_ _ | refine blk_drew ?_ | refine blk_alloc ?_ _)); refine blk_far ?_ NB208_222.out _; (with_reducible repeat (first | refine blk_drewN ?_ _ | refine blk_drew ?_ | refine blk_alloc ?_ _)); refine blk_far ?_ NB208_222.out _; (with_reducible repeat (first | refine blk_drewN ?_ _ | refine blk_drew ?_ | refine blk_alloc ?_ _)); refine blk_far ?_ NB208_222.out _; (with_reducible repeat (first | refine blk_drewN ?_ _ | refine blk_drew ?_ | refine blk_alloc ?_ _)); exact BK208.out) hb); have n3_ := Aside0.mk (blk_below (g := gb222) (o := .cells #[.bool ((Go.bits .and .u8 t204 128) != 0), .int .u8 (Go.bits .and .u8 t204 7), .int .u32 ((rd t213 0) % 4294967296), .int .u16 (IntKind.u16.wrap (rd t213 2)), .string (t214.extract 0 48)] 62 (0, 0)) (by (with_reducible repeat (first | refine blk_drewN ?_ _ | refine blk_drew ?_ | refine blk_alloc ?_ _)); refine blk_put (cs := #[.bool ((Go.bits .and .u8 t204 128) != 0), .int .u8 (Go.bits .and .u8 t204 7), .int .u32 ((rd t213 0) % 4294967296), .int .u16 (IntKind.u16.wrap (rd t213 2)), .string (⟨#[]⟩ : ByteArray)]) ?_ 4 _ rfl; (with_reducible repeat (first | refine blk_drewN ?_ _ | refine blk_drew ?_ | refine blk_alloc ?_ _)); refine blk_put (cs := #[.bool ((Go.bits .and .u8 t204 128) != 0), .int .u8 (Go.bits .and .u8 t204 7), .int .u32 ((rd t213 0) % 4294967296), .int .u16 0, .string (⟨#[]⟩ : ByteArray)]) ?_ 3 _ rfl; (with_reducible repeat (first | refine blk_drewN ?_ _ | refine blk_drew ?_ | refine blk_alloc ?_ _)); refine blk_put (cs := #[.bool ((Go.bits .and .u8 t204 128) != 0), .int .u8 (Go.bits .and .u8 t204 7), .int .u32 0, .int .u16 0, .string (⟨#[]⟩ : ByteArray)]) ?_ 2 _ rfl; (with_reducible repeat (first | refine blk_drewN ?_ _ | refine blk_drew ?_ | refine blk_alloc ?_ _)); refine blk_put (cs := #[.bool ((Go.bits .and .u8 t204 128) != 0), .int .u8 0, .int .u32 0, .int .u16 0, .string (⟨#[]⟩ : ByteArray)]) ?_ 1 _ rfl; (with_reducible repeat (first | refine blk_drewN ?_ _ | refine blk_drew ?_ | refine blk_alloc ?_ _)); refine blk_put (cs := #[.bool false, .int .u8 0, .int .u32 0, .int .u16 0, .string (⟨#[]⟩ : ByteArray)]) ?_ 0 _ rfl; (with_reducible repeat (first | refine blk_drewN ?_ _ | refine blk_drew ?_ | refine blk_alloc ?_ _)); exact BK222.out) hb); have n4_ := Aside0.mk (below_step (by repeat (first | (with_reducible first | exact HB.out | apply below_alloc | apply pw_below_drewN | apply below_drew1 | refine below_set ?_ GE200.out | refine below_set ?_ GE208.out | refine below_set ?_ GE222.out) | exact HB.out)) hb); clear HO_9; clear BK200; clear BK208; clear BK222; clear HB; have HO_9 := n0_; have BK200 := n1_; have BK208 := n2_; have BK222 := n3_; have HB := n4_; clear n0_ n1_ n2_ n3_ n4_; (try clear hb); (try clear hb2); (try clear hk); (try clear hi); have hnb71 := NB200_208.out; have hnc71 := NB208_200.out; have hcz72_0 : w70.cell? ⟨gb200, 0, none⟩ = some (.bool false) := (blk_cell BK200.out 0).trans rfl; have hcz72_1 : w70.cell? ⟨gb200, 1, none⟩ = some (.int .u8 0) := (blk_cell BK200.out 1).trans rfl; have hcz72_2 : w70.cell? ⟨gb200, 2, none⟩ = some (.int .u32 0) := (blk_cell BK200.out 2).trans rfl; have hcz72_3 : w70.cell? ⟨gb200, 3, none⟩ = some (.int .u16 0) := (blk_cell BK200.out 3).trans rfl; have hcz72_4 : w70.cell? ⟨gb200, 4, none⟩ = some (.string (⟨#[]⟩ : ByteArray)) := (blk_cell BK200.out 4).trans rfl; have hfz72_0 := blk_frozen BK200.out 0; have hfz72_1 := blk_frozen BK200.out 1; have hfz72_2 := blk_frozen BK200.out 2; have hfz72_3 := blk_frozen BK200.out 3; have hfz72_4 := blk_frozen BK200.out 4))
                          refine bodyPost_ret (results_ct rfl _ _ gb200 62 #[.bool false, .int .u8 0, .int .u32 0, .int .u16 0, .string (⟨#[]⟩ : ByteArray)] (0, 0) _ rfl (by (with_reducible repeat (first | refine blk_drewN ?_ _ | refine blk_drew ?_ | refine blk_alloc ?_ _)); refine blk_put (cs := #[.bool false, .int .u8 0, .int .u32 0, .int .u16 0, .string (⟨#[]⟩ : ByteArray)]) ?_ 4 _ rfl; (with_reducible repeat (first | refine blk_drewN ?_ _ | refine blk_drew ?_ | refine blk_alloc ?_ _)); refine blk_put (cs := #[.bool false, .int .u8 0, .int .u32 0, .int .u16 0, .string (⟨#[]⟩ : ByteArray)]) ?_ 3 _ rfl; (with_reducible repeat (first | refine blk_drewN ?_ _ | refine blk_drew ?_ | refine blk_alloc ?_ _)); refine blk_put (cs := #[.bool false, .int .u8 0, .int .u32 0, .int .u16 0, .string (⟨#[]⟩ : ByteArray)]) ?_ 2 _ rfl; (with_reducible repeat (first | refine blk_drewN ?_ _ | refine blk_drew ?_ | refine blk_alloc ?_ _)); refine blk_put (cs := #[.bool false, .int .u8 0, .int .u32 0, .int .u16 0, .string (⟨#[]⟩ : ByteArray)]) ?_ 1 _ rfl; (with_reducible repeat (first | refine blk_drewN ?_ _ | refine blk_drew ?_ | refine blk_alloc ?_ _)); refine blk_put (cs := #[.bool false, .int .u8 0, .int .u32 0, .int .u16 0, .string (⟨#[]⟩ : ByteArray)]) ?_ 0 _ rfl; (with_reducible repeat (first | refine blk_drewN ?_ _ | refine blk_drew ?_ | refine blk_alloc ?_ _)); exact BK200.out) Try.underlying62 rfl (by kernel_rfl)) rfl ?_
                          exact ⟨by first | rfl | (simp [errW_none, errW_some] <;> rfl) | (simp [*, errW_none, errW_some] <;> rfl), by repeat (first | (with_reducible first | exact HB.out | apply below_alloc | apply pw_below_drewN | apply below_drew1 | refine below_set ?_ GE200.out | refine below_set ?_ GE208.out | refine below_set ?_ GE222.out) | exact HB.out)⟩
                      · rw [if_neg c41] at H
                        exact absurd H (by simp)
                    · rw [if_neg c40] at H
                      exact absurd H (by simp)
                  · rw [if_neg c39] at H
                    exact absurd H (by simp)
                · rw [if_neg c38] at H
                  exact absurd H (by simp)
        · rw [if_neg c17] at H
          have c17b0 : (t215 == 0) = false := beq_eq_false_iff_ne.mpr c17
          have c17b1 : (t215 != 0) = true := bne_iff_ne.mpr c17
          simp only [Option.some.injEq, Prod.mk.injEq] at H
          obtain ⟨rfl, rfl, rfl, rfl, rfl, rfl⟩ := H
          go_wp2_with (first | ((with_reducible refine gate_dst (N := 30) rfl ?_); refine Kd.R_lit (Kd.int .i64) _ 3 ?hg (N := 30) ?hd (xs := ([32, 3, 13] : List Int)) (inner := [.int .i64 32, .int .i64 3, .int .i64 13]) (ok := fun _ => True) (okp := fun _ => True) ?hr ?hp (fun _ hk => hk) trivial (Below.refl _ _) (Nat.le_refl _) (by simp) ?_; (case hd => rfl); (case hg => rfl); (case hr => first | (go_simp; done) | (go_simp; rfl)); (case hp => exact (Reps.one (show Kd.M (Kd.int .i64) _ _ _ 32 [.int .i64 32] from rfl) (Reps.one (show Kd.M (Kd.int .i64) _ _ _ 3 [.int .i64 3] from rfl) (Reps.one (show Kd.M (Kd.int .i64) _ _ _ 13 [.int .i64 13] from rfl) (Reps.none _ _))))); intro v211 w73 ho74 hb hg_ hnew_; clear hg_ hnew_; (first | rw [← Ny210.out] at ho74 | (simp only [Int.reduceToNat] at ho74; rw [← Ny210.out] at ho74)); have n0_ := Aside0.mk (Kd.R_lower ho74 (below_size (by repeat (first | (with_reducible first | exact HB.out | apply below_alloc | apply pw_below_drewN | apply below_drew1 | refine below_set ?_ GE200.out | refine below_set ?_ GE208.out) | exact HB.out)))); have n1_ := Aside0.mk (blk_below (g := gb200) (o := .cells #[.bool false, .int .u8 0, .int .u32 0, .int .u16 0, .string (⟨#[]⟩ : ByteArray)] 62 (0, 0)) (by (with_reducible repeat (first | refine blk_drewN ?_ _ | refine blk_drew ?_ | refine blk_alloc ?_ _)); exact BK200.out) hb); have n2_ := Aside0.mk (blk_below (g := gb208) (o := .cells #[.int .u8 t201, .int .u8 t202, .int .u8 t203, .int .u8 t204, .int .u8 t205] 84 (0, 0)) (by (with_reducible repeat (first | refine blk_drewN ?_ _ | refine blk_drew ?_ | refine blk_alloc ?_ _)); exact BK208.out) hb); have n3_ := Aside0.mk (below_step (by repeat (first | (with_reducible first | exact HB.out | apply below_alloc | apply pw_below_drewN | apply below_drew1 | refine below_set ?_ GE200.out | refine below_set ?_ GE208.out) | exact HB.out)) hb); clear BK200; clear BK208; clear HB; have HO212 := n0_; have BK200 := n1_; have BK208 := n2_; have HB := n3_; clear n0_ n1_ n2_ n3_; clear hb ho74; obtain ⟨Ao75, co75, eo75⟩ := Kd.R_slice HO212.out; subst eo75) | ((with_reducible refine gate_callee (f := 45) rfl ?_); refine goesL_ (some 31) rfl rfl Try.func45 (by kernel_rfl) rfl #[.string t206, .slice Ao75 y210.length co75] rfl (by (try simp only [List.map_toArray, List.map_cons, List.map_nil]); first | done | rfl | (simp only [List.length_drop, List.length_take]; rfl)) ?_; (with_reducible refine (field_Split.calls kj3 t206 _ _ y210 t213 t214 t215 _ ?side1 ?side2 A16.out).mono ?_); (case side1 => repeat (first | exact (Kd.R_reads' HO212.out).2.2 | (with_reducible refine Kd.C_alloc ?_ _) | (with_reducible refine Kd.C_drewN ?_ _) | (with_reducible refine Kd.C_drew ?_))); (case side2 => exact (Kd.R_reads' HO212.out).2.1); rintro e w76 ⟨v216, rfl, ho0, hb⟩; refine ⟨_, rfl, ?_⟩; have n0_ := Aside0.mk (Kd.R_below (by (with_reducible repeat (first | apply Kd.R_alloc | apply Kd.R_drewN | apply Kd.R_drew)); exact HO212.out) hb); have n1_ := Aside0.mk (Kd.R_lower ho0 (below_size (by repeat (first | (with_reducible first | exact HB.out | apply below_alloc | apply pw_below_drewN | apply below_drew1 | refine below_set ?_ GE200.out | refine below_set ?_ GE208.out) | exact HB.out)))); have n2_ := Aside0.mk (blk_below (g := gb200) (o := .cells #[.bool false, .int .u8 0, .int .u32 0, .int .u16 0, .string (⟨#[]⟩ : ByteArray)] 62 (0, 0)) (by (with_reducible repeat (first | refine blk_drewN ?_ _ | refine blk_drew ?_ | refine blk_alloc ?_ _)); exact BK200.out) hb); have n3_ := Aside0.mk (blk_below (g := gb208) (o := .cells #[.int .u8 t201, .int .u8 t202, .int .u8 t203, .int .u8 t204, .int .u8 t205] 84 (0, 0)) (by (with_reducible repeat (first | refine blk_drewN ?_ _ | refine blk_drew ?_ | refine blk_alloc ?_ _)); exact BK208.out) hb); have n4_ := Aside0.mk (below_step (by repeat (first | (with_reducible first | exact HB.out | apply below_alloc | apply pw_below_drewN | apply below_drew1 | refine below_set ?_ GE200.out | refine below_set ?_ GE208.out) | exact HB.out)) hb); clear HO212; clear BK200; clear BK208; clear HB; have HO212 := n0_; have HO217 := n1_; have BK200 := n2_; have BK208 := n3_; have HB := n4_; clear n0_ n1_ n2_ n3_ n4_; (try clear hb); (try clear hb2); (try clear hk); (try clear hi); (try clear ho0); have hnb77 := NB200_208.out; have hnc77 := NB208_200.out; have hcz78_0 : w76.cell? ⟨gb200, 0, none⟩ = some (.bool false) := (blk_cell BK200.out 0).trans rfl; have hcz78_1 : w76.cell? ⟨gb200, 1, none⟩ = some (.int .u8 0) := (blk_cell BK200.out 1).trans rfl; have hcz78_2 : w76.cell? ⟨gb200, 2, none⟩ = some (.int .u32 0) := (blk_cell BK200.out 2).trans rfl; have hcz78_3 : w76.cell? ⟨gb200, 3, none⟩ = some (.int .u16 0) := (blk_cell BK200.out 3).trans rfl; have hcz78_4 : w76.cell? ⟨gb200, 4, none⟩ = some (.string (⟨#[]⟩ : ByteArray)) := (blk_cell BK200.out 4).trans rfl; have hfz78_0 := blk_frozen BK200.out 0; have hfz78_1 := blk_frozen BK200.out 1; have hfz78_2 := blk_frozen BK200.out 2; have hfz78_3 := blk_frozen BK200.out 3; have hfz78_4 := blk_frozen BK200.out 4))
          refine bodyPost_ret (results_ct rfl _ _ gb200 62 #[.bool false, .int .u8 0, .int .u32 0, .int .u16 0, .string (⟨#[]⟩ : ByteArray)] (0, 0) _ rfl (by (with_reducible repeat (first | refine blk_drewN ?_ _ | refine blk_drew ?_ | refine blk_alloc ?_ _)); refine blk_put (cs := #[.bool false, .int .u8 0, .int .u32 0, .int .u16 0, .string (⟨#[]⟩ : ByteArray)]) ?_ 4 _ rfl; (with_reducible repeat (first | refine blk_drewN ?_ _ | refine blk_drew ?_ | refine blk_alloc ?_ _)); refine blk_put (cs := #[.bool false, .int .u8 0, .int .u32 0, .int .u16 0, .string (⟨#[]⟩ : ByteArray)]) ?_ 3 _ rfl; (with_reducible repeat (first | refine blk_drewN ?_ _ | refine blk_drew ?_ | refine blk_alloc ?_ _)); refine blk_put (cs := #[.bool false, .int .u8 0, .int .u32 0, .int .u16 0, .string (⟨#[]⟩ : ByteArray)]) ?_ 2 _ rfl; (with_reducible repeat (first | refine blk_drewN ?_ _ | refine blk_drew ?_ | refine blk_alloc ?_ _)); refine blk_put (cs := #[.bool false, .int .u8 0, .int .u32 0, .int .u16 0, .string (⟨#[]⟩ : ByteArray)]) ?_ 1 _ rfl; (with_reducible repeat (first | refine blk_drewN ?_ _ | refine blk_drew ?_ | refine blk_alloc ?_ _)); refine blk_put (cs := #[.bool false, .int .u8 0, .int .u32 0, .int .u16 0, .string (⟨#[]⟩ : ByteArray)]) ?_ 0 _ rfl; (with_reducible repeat (first | refine blk_drewN ?_ _ | refine blk_drew ?_ | refine blk_alloc ?_ _)); exact BK200.out) Try.underlying62 rfl (by kernel_rfl)) rfl ?_
          exact ⟨by first | rfl | (simp [errW_none, errW_some] <;> rfl) | (simp [*, errW_none, errW_some] <;> rfl), by repeat (first | (with_reducible first | exact HB.out | apply below_alloc | apply pw_below_drewN | apply below_drew1 | refine below_set ?_ GE200.out | refine below_set ?_ GE208.out) | exact HB.out)⟩
      · rw [if_neg c15] at H
        have c15b0 : (x8_3 == 0) = false := beq_eq_false_iff_ne.mpr c15
        have c15b1 : (x8_3 != 0) = true := bne_iff_ne.mpr c15
        simp only [Option.some.injEq, Prod.mk.injEq] at H
        obtain ⟨rfl, rfl, rfl, rfl, rfl, rfl⟩ := H
        have hnb79 := NB200_208.out
        have hnc79 := NB208_200.out
        have hcz80_0 : wc.cell? ⟨gb200, 0, none⟩ = some (.bool false) := (blk_cell BK200.out 0).trans rfl
        have hcz80_1 : wc.cell? ⟨gb200, 1, none⟩ = some (.int .u8 0) := (blk_cell BK200.out 1).trans rfl
        have hcz80_2 : wc.cell? ⟨gb200, 2, none⟩ = some (.int .u32 0) := (blk_cell BK200.out 2).trans rfl
        have hcz80_3 : wc.cell? ⟨gb200, 3, none⟩ = some (.int .u16 0) := (blk_cell BK200.out 3).trans rfl
        have hcz80_4 : wc.cell? ⟨gb200, 4, none⟩ = some (.string (⟨#[]⟩ : ByteArray)) := (blk_cell BK200.out 4).trans rfl
        have hfz80_0 := blk_frozen BK200.out 0
        have hfz80_1 := blk_frozen BK200.out 1
        have hfz80_2 := blk_frozen BK200.out 2
        have hfz80_3 := blk_frozen BK200.out 3
        have hfz80_4 := blk_frozen BK200.out 4
        go_wp2
        refine bodyPost_ret (results_ct rfl _ _ gb200 62 #[.bool false, .int .u8 0, .int .u32 0, .int .u16 0, .string (⟨#[]⟩ : ByteArray)] (0, 0) _ rfl (by (with_reducible repeat (first | refine blk_drewN ?_ _ | refine blk_drew ?_ | refine blk_alloc ?_ _)); refine blk_put (cs := #[.bool false, .int .u8 0, .int .u32 0, .int .u16 0, .string (⟨#[]⟩ : ByteArray)]) ?_ 4 _ rfl; (with_reducible repeat (first | refine blk_drewN ?_ _ | refine blk_drew ?_ | refine blk_alloc ?_ _)); refine blk_put (cs := #[.bool false, .int .u8 0, .int .u32 0, .int .u16 0, .string (⟨#[]⟩ : ByteArray)]) ?_ 3 _ rfl; (with_reducible repeat (first | refine blk_drewN ?_ _ | refine blk_drew ?_ | refine blk_alloc ?_ _)); refine blk_put (cs := #[.bool false, .int .u8 0, .int .u32 0, .int .u16 0, .string (⟨#[]⟩ : ByteArray)]) ?_ 2 _ rfl; (with_reducible repeat (first | refine blk_drewN ?_ _ | refine blk_drew ?_ | refine blk_alloc ?_ _)); refine blk_put (cs := #[.bool false, .int .u8 0, .int .u32 0, .int .u16 0, .string (⟨#[]⟩ : ByteArray)]) ?_ 1 _ rfl; (with_reducible repeat (first | refine blk_drewN ?_ _ | refine blk_drew ?_ | refine blk_alloc ?_ _)); refine blk_put (cs := #[.bool false, .int .u8 0, .int .u32 0, .int .u16 0, .string (⟨#[]⟩ : ByteArray)]) ?_ 0 _ rfl; (with_reducible repeat (first | refine blk_drewN ?_ _ | refine blk_drew ?_ | refine blk_alloc ?_ _)); exact BK200.out) Try.underlying62 rfl (by kernel_rfl)) rfl ?_
        exact ⟨by first | rfl | (simp [errW_none, errW_some] <;> rfl) | (simp [*, errW_none, errW_some] <;> rfl), by repeat (first | (with_reducible first | exact HB.out | apply below_alloc | apply pw_below_drewN | apply below_drew1 | refine below_set ?_ GE200.out | refine below_set ?_ GE208.out) | exact HB.out)⟩

end Go.Proofs.Ytapicoienpbdfaa.PWatchSends
