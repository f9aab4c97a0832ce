-- Written by a program of this work, after the translation.
import Derived.Test.YtmdaaphjndjakagPAllx0
import Derived.Test.YtmdaaphjndjakagPAllx14
import Derived.Test.YtmdaaphjndjakagPAllx15
import Derived.Test.YtmdaaphjndjakagPAllx17
namespace Go.Proofs.Ytmdaaphjndjakag.PAll
open Go.RowKit Go.Proofs.YtmdaaphjndjakagW.PrintWords Go.Proofs.YtmdaaphjndjakagW.PrintLast Go.Proofs.YtmdaaphjndjakagW.PrintMore
attribute [local go_sem] max2_int min2_int max_two min_two max_three min_three max_four min_four   -- for this text's walks alone
set_option linter.unusedVariables false
set_option linter.unusedSimpArgs false

/-! ### carouselref06_Open: function 11 -/
def carouselref06_Open.j0 : Nat → ByteArray → Int → Bool → Int → Int → Int → Int → Int → Option (Bool × Int × Int × Int × ByteArray × Int)
  | 0, _, _, _, _, _, _, _, _ => none
  | k + 1, x7, x10, x45, x206000, x206001, x206002, x206003, x206004 => if x45 = true then (some (false, 0, 0, 0, (⟨#[]⟩ : ByteArray), 3)) else (if (Int.tmod x206003 8) = 0 then (some (false, 0, 0, 0, (⟨#[]⟩ : ByteArray), 4)) else (if x10 = 0 then (some (false, 0, 0, 0, (⟨#[]⟩ : ByteArray), 4)) else ((carouselref01_Get.f k x7 0 4).bind fun t211 => (if 6 ≤ 54 then (if 54 ≤ (x7.size : Int) then (some (decide (x206003 ≥ 128), Int.tmod x206003 8, (t211) % 4294967296, IntKind.u16.wrap (x10), x7.extract 6 54, 0)) else (none)) else (none)))))
def carouselref06_Open.f (k : Nat) (a0 : ByteArray) (a1 : Int) : Option (Bool × Int × Int × Int × ByteArray × Int) := (carouselref04_Open.f k a0).bind fun bt198 => (if bt198.2.2.2.2.2.2 = 0 then ((carouselref04_Is.f bt198.1 bt198.2.1 bt198.2.2.1 bt198.2.2.2.1 bt198.2.2.2.2.1 a1 0 1 70).bind fun t206 => (if t206 = 0 then ((carouselref01_Get.f k bt198.2.2.2.2.2.1 4 2).bind fun t207 => (if t207 ≥ 8192 then (carouselref06_Open.j0 k bt198.2.2.2.2.2.1 t207 true bt198.1 bt198.2.1 bt198.2.2.1 bt198.2.2.2.1 bt198.2.2.2.2.1) else (if (Int.tmod (IntKind.u8.wrap (Int.tdiv bt198.2.2.2.1 8)) 16) = 0 then (if 54 ≤ (bt198.2.2.2.2.2.1.size : Int) then (if 16 ≤ 281474976710656 then (carouselref06_Open.j0 k bt198.2.2.2.2.2.1 t207 ((bt198.2.2.2.2.2.1.extract 54 bt198.2.2.2.2.2.1.size).toList != (strOfNums (List.replicate 16 0)).toList) bt198.1 bt198.2.1 bt198.2.2.1 bt198.2.2.2.1 bt198.2.2.2.2.1) else (none)) else (none)) else (carouselref06_Open.j0 k bt198.2.2.2.2.2.1 t207 true bt198.1 bt198.2.1 bt198.2.2.1 bt198.2.2.2.1 bt198.2.2.2.2.1)))) else (some (false, 0, 0, 0, (⟨#[]⟩ : ByteArray), t206)))) else (some (false, 0, 0, 0, (⟨#[]⟩ : ByteArray), bt198.2.2.2.2.2.2)))
theorem carouselref06_Open.mono_l : ∀ k, (∀ y0 y1 y2 y3 y4 y5 y6 y7, LeO (carouselref06_Open.j0 k y0 y1 y2 y3 y4 y5 y6 y7) (carouselref06_Open.j0 (k + 1) y0 y1 y2 y3 y4 y5 y6 y7))
  | 0 => fun _ _ _ _ _ _ _ _ r h => by simp [carouselref06_Open.j0] at h
  | k + 1 => by
    have ih0 := carouselref06_Open.mono_l k
    · intro y0 y1 y2 y3 y4 y5 y6 y7
      unfold carouselref06_Open.j0
      repeat' first
      | (with_reducible exact ih0 _ _ _ _ _ _ _ _)
      | (with_reducible exact carouselref01_Get.mono _ _ _ _)
      | (with_reducible exact carouselref04_Open.mono _ _)
      | (with_reducible exact LeO.refl _)
      | (with_reducible exact LeO.none _)
      | (with_reducible refine LeO.ite ?_ ?_)
      | (with_reducible refine LeO.bind ?_ (fun _ => ?_))
      | exact ih0 _ _ _ _ _ _ _ _
      | exact carouselref01_Get.mono _ _ _ _
      | exact carouselref04_Open.mono _ _
      | exact LeO.none _
      | refine LeO.ite ?_ ?_
      | refine LeO.bind ?_ (fun _ => ?_)
theorem carouselref06_Open.mono : ∀ a0 a1 k, LeO (carouselref06_Open.f k a0 a1) (carouselref06_Open.f (k + 1) a0 a1) := by
  intro a0 a1 k
  have ih0 := carouselref06_Open.mono_l k
  unfold carouselref06_Open.f
  repeat' first
      | (with_reducible exact ih0 _ _ _ _ _ _ _ _)
      | (with_reducible exact carouselref01_Get.mono _ _ _ _)
      | (with_reducible exact carouselref04_Open.mono _ _)
      | (with_reducible exact LeO.refl _)
      | (with_reducible exact LeO.none _)
      | (with_reducible refine LeO.ite ?_ ?_)
      | (with_reducible refine LeO.bind ?_ (fun _ => ?_))
      | exact ih0 _ _ _ _ _ _ _ _
      | exact carouselref01_Get.mono _ _ _ _
      | exact carouselref04_Open.mono _ _
      | exact LeO.none _
      | refine LeO.ite ?_ ?_
      | refine LeO.bind ?_ (fun _ => ?_)
def carouselref06_Open.T8 : Bool × List (List Nat × List Nat) := (true, [([], []), ([0], [0]), ([1], [1]), ([2], [2]), ([3, 2], [2, 3]), ([4, 2], [2, 4]), ([5, 2], [2, 5]), ([6, 2], [2, 6]), ([2, 7], [2, 7]), ([8, 2], [8]), ([9], [9]), ([10, 9], [9, 10]), ([9], [9]), ([12, 9], [9, 12]), ([11, 13, 9], [9, 11, 13]), ([9, 14], [9, 14])])
def carouselref06_Open.B8 : List Nat := [0, 1, 3, 7, 15, 31, 63, 127, 255, 511, 1023, 2047, 1023, 5119, 16383, 32767]
theorem carouselref06_Open.tab8 : rtab .any (opsOf Try.f11 8) = carouselref06_Open.T8 := by kernel_rfl
theorem carouselref06_Open.bits8 : waitsOk carouselref06_Open.T8.2 carouselref06_Open.B8 = true := by kernel_rfl
def carouselref06_Open.T12 : Bool × List (List Nat × List Nat) := (true, [([], []), ([0], [0]), ([1], [1]), ([], []), ([3], [3]), ([4], [4]), ([], []), ([6], [6]), ([7], [7]), ([], []), ([9], [9]), ([], []), ([11], [11]), ([2, 5, 8, 10, 12], [2, 5, 8, 10, 12]), ([13, 7, 0, 1, 2, 3, 4, 5, 6, 7, 8, 9, 10, 11, 12, 13], [13]), ([14, 0, 1, 2, 3, 4, 5, 6, 7, 8, 9, 10, 11, 12, 13, 14], [])])
def carouselref06_Open.B12 : List Nat := [0, 1, 3, 0, 8, 24, 0, 64, 192, 0, 512, 0, 2048, 8191, 16383, 32767]
theorem carouselref06_Open.tab12 : rtab .any (opsOf Try.f11 12) = carouselref06_Open.T12 := by kernel_rfl
theorem carouselref06_Open.bits12 : waitsOk carouselref06_Open.T12.2 carouselref06_Open.B12 = true := by kernel_rfl
set_option maxHeartbeats 8000000 in
set_option maxRecDepth 100000 in
theorem carouselref06_Open.calls (k : Nat) (a0 : ByteArray) (a1 : Int) (r1 : Bool) (r2 : Int) (r3 : Int) (r4 : Int) (r5 : ByteArray) (r6 : Int) (w : World) (h : carouselref06_Open.f k a0 a1 = some (r1, r2, r3, r4, r5, r6)) :
    Calls Try.prog 11 #[.string a0, .int .u8 a1] w fun e w' => e = .returned (.tuple #[.agg #[.bool r1, .int .u8 r2, .int .u32 r3, .int .u16 r4, .string r5], .int .i64 r6]) ∧ Below w.heap.size w w' := by
  have hu30 := Try.underlying30
  have hu87 := Try.underlying87
  have HB := Aside0.mk (Below.refl w.heap.size w)
  have H : ((carouselref04_Open.f k a0).bind fun bt198 => (if bt198.2.2.2.2.2.2 = 0 then ((carouselref04_Is.f bt198.1 bt198.2.1 bt198.2.2.1 bt198.2.2.2.1 bt198.2.2.2.2.1 a1 0 1 70).bind fun t206 => (if t206 = 0 then ((carouselref01_Get.f k bt198.2.2.2.2.2.1 4 2).bind fun t207 => (if t207 ≥ 8192 then (carouselref06_Open.j0 k bt198.2.2.2.2.2.1 t207 true bt198.1 bt198.2.1 bt198.2.2.1 bt198.2.2.2.1 bt198.2.2.2.2.1) else (if (Int.tmod (IntKind.u8.wrap (Int.tdiv bt198.2.2.2.1 8)) 16) = 0 then (if 54 ≤ (bt198.2.2.2.2.2.1.size : Int) then (if 16 ≤ 281474976710656 then (carouselref06_Open.j0 k bt198.2.2.2.2.2.1 t207 ((bt198.2.2.2.2.2.1.extract 54 bt198.2.2.2.2.2.1.size).toList != (strOfNums (List.replicate 16 0)).toList) bt198.1 bt198.2.1 bt198.2.2.1 bt198.2.2.2.1 bt198.2.2.2.2.1) else (none)) else (none)) else (carouselref06_Open.j0 k bt198.2.2.2.2.2.1 t207 true bt198.1 bt198.2.1 bt198.2.2.1 bt198.2.2.2.1 bt198.2.2.2.2.1)))) else (some (false, 0, 0, 0, (⟨#[]⟩ : ByteArray), t206)))) else (some (false, 0, 0, 0, (⟨#[]⟩ : ByteArray), bt198.2.2.2.2.2.2)))) = some (r1, r2, r3, r4, r5, r6) := h
  clear h
  replace H := Option.bind_eq_some_iff.mp H
  obtain ⟨⟨t198, t199, t200, t201, t202, t203, t204⟩, A30, H⟩ := H
  replace H : (if t204 = 0 then ((carouselref04_Is.f t198 t199 t200 t201 t202 a1 0 1 70).bind fun t206 => (if t206 = 0 then ((carouselref01_Get.f k t203 4 2).bind fun t207 => (if t207 ≥ 8192 then (carouselref06_Open.j0 k t203 t207 true t198 t199 t200 t201 t202) else (if (Int.tmod (IntKind.u8.wrap (Int.tdiv t201 8)) 16) = 0 then (if 54 ≤ (t203.size : Int) then (if 16 ≤ 281474976710656 then (carouselref06_Open.j0 k t203 t207 ((t203.extract 54 t203.size).toList != (strOfNums (List.replicate 16 0)).toList) t198 t199 t200 t201 t202) else (none)) else (none)) else (carouselref06_Open.j0 k t203 t207 true t198 t199 t200 t201 t202)))) else (some (false, 0, 0, 0, (⟨#[]⟩ : ByteArray), t206)))) else (some (false, 0, 0, 0, (⟨#[]⟩ : ByteArray), t204))) = some (r1, r2, r3, r4, r5, r6) := H
  have A3 := Aside0.mk A30
  clear A30
  by_cases c4 : t204 = 0
  · rw [if_pos c4] at H
    have c4b0 : (t204 == 0) = true := beq_iff_eq.mpr c4
    have c4b1 : (t204 != 0) = false := bne_eq_false_iff_eq.mpr c4
    clear c4
    replace H := Option.bind_eq_some_iff.mp H
    obtain ⟨t206, A50, H⟩ := H
    replace H : (if t206 = 0 then ((carouselref01_Get.f k t203 4 2).bind fun t207 => (if t207 ≥ 8192 then (carouselref06_Open.j0 k t203 t207 true t198 t199 t200 t201 t202) else (if (Int.tmod (IntKind.u8.wrap (Int.tdiv t201 8)) 16) = 0 then (if 54 ≤ (t203.size : Int) then (if 16 ≤ 281474976710656 then (carouselref06_Open.j0 k t203 t207 ((t203.extract 54 t203.size).toList != (strOfNums (List.replicate 16 0)).toList) t198 t199 t200 t201 t202) else (none)) else (none)) else (carouselref06_Open.j0 k t203 t207 true t198 t199 t200 t201 t202)))) else (some (false, 0, 0, 0, (⟨#[]⟩ : ByteArray), t206))) = some (r1, r2, r3, r4, r5, r6) := H
    have A5 := Aside0.mk A50
    clear A50
    by_cases c6 : t206 = 0
    · rw [if_pos c6] at H
      have c6b0 : (t206 == 0) = true := beq_iff_eq.mpr c6
      have c6b1 : (t206 != 0) = false := bne_eq_false_iff_eq.mpr c6
      clear c6
      replace H := Option.bind_eq_some_iff.mp H
      obtain ⟨t207, A70, H⟩ := H
      replace H : (if t207 ≥ 8192 then (carouselref06_Open.j0 k t203 t207 true t198 t199 t200 t201 t202) else (if (Int.tmod (IntKind.u8.wrap (Int.tdiv t201 8)) 16) = 0 then (if 54 ≤ (t203.size : Int) then (if 16 ≤ 281474976710656 then (carouselref06_Open.j0 k t203 t207 ((t203.extract 54 t203.size).toList != (strOfNums (List.replicate 16 0)).toList) t198 t199 t200 t201 t202) else (none)) else (none)) else (carouselref06_Open.j0 k t203 t207 true t198 t199 t200 t201 t202))) = some (r1, r2, r3, r4, r5, r6) := H
      have A7 := Aside0.mk A70
      clear A70
      have HC8 := Aside0.mk H
      clear H
      go_enter Try.func11, Try.ntmps11
      go_upto_region 8 with (first | ((with_reducible refine gate_dst (N := 4) rfl ?_); (try (refine gate_guard (by rfl) ?_; dsimp only)); refine box_event ?hg (N := 4) ?hd (cs := #[.bool false, .int .u8 0, .int .u32 0, .int .u16 0, .string (⟨#[]⟩ : ByteArray)]) (t := 30) ?hr ?_; (case hd => rfl); (case hg => rfl); (case hr => first | (go_simp; done) | (go_simp; rfl)); intro gb197 hg w9 hbox hb; have n0_ := Aside0.mk (below_step (by repeat (first | (with_reducible first | exact HB.out | apply below_alloc | apply pw_below_drewN | apply below_drew1) | exact HB.out)) hb); have n1_ := Aside0.mk (hbox); have n2_ := Aside0.mk ((by rw [hg]; exact (below_size (by repeat (first | (with_reducible first | exact HB.out | apply below_alloc | apply pw_below_drewN | apply below_drew1) | exact HB.out))) : w.heap.size ≤ gb197)); have n3_ := Aside0.mk ((by rw [hg]; exact (below_size (by repeat (first | (with_reducible first | exact HB.out | apply below_alloc | apply pw_below_drewN | apply below_drew1) | exact HB.out))) : w.heap.size ≤ gb197)); clear HB; have HB := n0_; have BK197 := n1_; have GW197 := n2_; have GE197 := n3_; clear n0_ n1_ n2_ n3_; clear hb hbox hg) | ((with_reducible refine gate_callee (f := 44) rfl ?_); refine goesL_ (some 13) rfl rfl Try.func44 (by kernel_rfl) rfl #[.string a0] rfl (by (try simp only [List.map_toArray, List.map_cons, List.map_nil]); first | done | rfl | (simp only [List.length_drop, List.length_take]; rfl)) ?_; (with_reducible refine (carouselref04_Open.calls k a0 t198 t199 t200 t201 t202 t203 t204 _ A3.out).mono ?_); rintro e w10 ⟨rfl, hb⟩; refine ⟨_, rfl, ?_⟩; have n0_ := Aside0.mk (blk_below (g := gb197) (o := .cells #[.bool false, .int .u8 0, .int .u32 0, .int .u16 0, .string (⟨#[]⟩ : ByteArray)] 30 (0, 0)) (by (with_reducible repeat (first | refine blk_drewN ?_ _ | refine blk_drew ?_ | refine blk_alloc ?_ _)); exact BK197.out) hb); have n1_ := Aside0.mk (below_step (by repeat (first | (with_reducible first | exact HB.out | apply below_alloc | apply pw_below_drewN | apply below_drew1 | refine below_set ?_ GE197.out) | exact HB.out)) hb); clear BK197; clear HB; have BK197 := n0_; have HB := n1_; clear n0_ n1_; (try clear hb); (try clear hb2); (try clear hk); (try clear hi)) | ((with_reducible refine gate_dst (N := 6) rfl ?_); (try (refine gate_guard (by rfl) ?_; dsimp only)); refine box_event ?hg (N := 6) ?hd (cs := #[.int .u8 0, .int .u8 0, .int .u8 0, .int .u8 0, .int .u8 0]) (t := 87) ?hr ?_; (case hd => rfl); (case hg => rfl); (case hr => first | (go_simp; done) | (go_simp; rfl)); intro gb205 hg w11 hbox hb; have n0_ := Aside0.mk (blk_below (g := gb197) (o := .cells #[.bool false, .int .u8 0, .int .u32 0, .int .u16 0, .string (⟨#[]⟩ : ByteArray)] 30 (0, 0)) (by (with_reducible repeat (first | refine blk_drewN ?_ _ | refine blk_drew ?_ | refine blk_alloc ?_ _)); exact BK197.out) hb); have n1_ := Aside0.mk (below_step (by repeat (first | (with_reducible first | exact HB.out | apply below_alloc | apply pw_below_drewN | apply below_drew1 | refine below_set ?_ GE197.out) | exact HB.out)) hb); have n2_ := Aside0.mk (hbox); have n3_ := Aside0.mk ((by rw [hg]; exact (below_size (by repeat (first | (with_reducible first | exact HB.out | apply below_alloc | apply pw_below_drewN | apply below_drew1 | refine below_set ?_ GE197.out) | exact HB.out))) : w.heap.size ≤ gb205)); have n4_ := Aside0.mk ((by rw [hg]; exact (below_size (by repeat (first | (with_reducible first | exact HB.out | apply below_alloc | apply pw_below_drewN | apply below_drew1 | refine below_set ?_ GE197.out) | exact HB.out))) : w.heap.size ≤ gb205)); have n5_ := Aside0.mk ((by rw [hg]; exact Nat.ne_of_lt (blk_lt (g := gb197) (o := .cells #[.bool false, .int .u8 0, .int .u32 0, .int .u16 0, .string (⟨#[]⟩ : ByteArray)] 30 (0, 0)) (by (with_reducible repeat (first | refine blk_drewN ?_ _ | refine blk_drew ?_ | refine blk_alloc ?_ _)); exact BK197.out)) : gb197 ≠ gb205)); have n6_ := Aside0.mk ((by rw [hg]; exact Nat.ne_of_gt (blk_lt (g := gb197) (o := .cells #[.bool false, .int .u8 0, .int .u32 0, .int .u16 0, .string (⟨#[]⟩ : ByteArray)] 30 (0, 0)) (by (with_reducible repeat (first | refine blk_drewN ?_ _ | refine blk_drew ?_ | refine blk_alloc ?_ _)); exact BK197.out)) : gb205 ≠ gb197)); clear BK197; clear HB; have BK197 := n0_; have HB := n1_; have BK205 := n2_; have GW205 := n3_; have GE205 := n4_; have NB197_205 := n5_; have NB205_197 := n6_; clear n0_ n1_ n2_ n3_ n4_ n5_ n6_; clear hb hbox hg; have hnb12 := NB205_197.out; have hnc12 := NB197_205.out; have hcz13_0 : w11.cell? ⟨gb205, 0, none⟩ = some (.int .u8 0) := (blk_cell BK205.out 0).trans rfl; have hcz13_1 : w11.cell? ⟨gb205, 1, none⟩ = some (.int .u8 0) := (blk_cell BK205.out 1).trans rfl; have hcz13_2 : w11.cell? ⟨gb205, 2, none⟩ = some (.int .u8 0) := (blk_cell BK205.out 2).trans rfl; have hcz13_3 : w11.cell? ⟨gb205, 3, none⟩ = some (.int .u8 0) := (blk_cell BK205.out 3).trans rfl; have hcz13_4 : w11.cell? ⟨gb205, 4, none⟩ = some (.int .u8 0) := (blk_cell BK205.out 4).trans rfl; have hfz13_0 := blk_frozen BK205.out 0; have hfz13_1 := blk_frozen BK205.out 1; have hfz13_2 := blk_frozen BK205.out 2; have hfz13_3 := blk_frozen BK205.out 3; have hfz13_4 := blk_frozen BK205.out 4) | ((with_reducible refine gate_callee (f := 45) rfl ?_); refine goesL_ (some 23) rfl rfl Try.func45 (by kernel_rfl) rfl #[.agg #[.int .u8 t198, .int .u8 t199, .int .u8 t200, .int .u8 t201, .int .u8 t202], .int .u8 a1, .int .u8 0, .int .u8 1, .int .u8 70] rfl (by (try simp only [List.map_toArray, List.map_cons, List.map_nil]); first | done | rfl | (simp only [List.length_drop, List.length_take]; rfl)) ?_; (with_reducible refine (carouselref04_Is.calls t198 t199 t200 t201 t202 a1 0 1 70 t206 _ A5.out).mono ?_); rintro e w14 ⟨rfl, hb⟩; refine ⟨_, rfl, ?_⟩; have n0_ := Aside0.mk (blk_below (g := gb197) (o := .cells #[.bool false, .int .u8 0, .int .u32 0, .int .u16 0, .string (⟨#[]⟩ : ByteArray)] 30 (0, 0)) (by (with_reducible repeat (first | refine blk_drewN ?_ _ | refine blk_drew ?_ | refine blk_alloc ?_ _)); refine blk_far ?_ NB197_205.out _; (with_reducible repeat (first | refine blk_drewN ?_ _ | refine blk_drew ?_ | refine blk_alloc ?_ _)); refine blk_far ?_ NB197_205.out _; (with_reducible repeat (first | refine blk_drewN ?_ _ | refine blk_drew ?_ | refine blk_alloc ?_ _)); refine blk_far ?_ NB197_205.out _; (with_reducible repeat (first | refine blk_drewN ?_ _ | refine blk_drew ?_ | refine blk_alloc ?_ _)); refine blk_far ?_ NB197_205.out _; (with_reducible repeat (first | refine blk_drewN ?_ _ | refine blk_drew ?_ | refine blk_alloc ?_ _)); refine blk_far ?_ NB197_205.out _; (with_reducible repeat (first | refine blk_drewN ?_ _ | refine blk_drew ?_ | refine blk_alloc ?_ _)); exact BK197.out) hb); have n1_ := Aside0.mk (blk_below (g := gb205) (o := .cells #[.int .u8 t198, .int .u8 t199, .int .u8 t200, .int .u8 t201, .int .u8 t202] 87 (0, 0)) (by (with_reducible repeat (first | refine blk_drewN ?_ _ | refine blk_drew ?_ | refine blk_alloc ?_ _)); refine blk_put (cs := #[.int .u8 t198, .int .u8 t199, .int .u8 t200, .int .u8 t201, .int .u8 0]) ?_ 4 _ rfl; (with_reducible repeat (first | refine blk_drewN ?_ _ | refine blk_drew ?_ | refine blk_alloc ?_ _)); refine blk_put (cs := #[.int .u8 t198, .int .u8 t199, .int .u8 t200, .int .u8 0, .int .u8 0]) ?_ 3 _ rfl; (with_reducible repeat (first | refine blk_drewN ?_ _ | refine blk_drew ?_ | refine blk_alloc ?_ _)); refine blk_put (cs := #[.int .u8 t198, .int .u8 t199, .int .u8 0, .int .u8 0, .int .u8 0]) ?_ 2 _ rfl; (with_reducible repeat (first | refine blk_drewN ?_ _ | refine blk_drew ?_ | refine blk_alloc ?_ _)); refine blk_put (cs := #[.int .u8 t198, .int .u8 0, .int .u8 0, .int .u8 0, .int .u8 0]) ?_ 1 _ rfl; (with_reducible repeat (first | refine blk_drewN ?_ _ | refine blk_drew ?_ | refine blk_alloc ?_ _)); refine blk_put (cs := #[.int .u8 0, .int .u8 0, .int .u8 0, .int .u8 0, .int .u8 0]) ?_ 0 _ rfl; (with_reducible repeat (first | refine blk_drewN ?_ _ | refine blk_drew ?_ | refine blk_alloc ?_ _)); exact BK205.out) hb); have n2_ := Aside0.mk (below_step (by repeat (first | (with_reducible first | exact HB.out | apply below_alloc | apply pw_below_drewN | apply below_drew1 | refine below_set ?_ GE197.out | refine below_set ?_ GE205.out) | exact HB.out)) hb); clear BK197; clear BK205; clear HB; have BK197 := n0_; have BK205 := n1_; have HB := n2_; clear n0_ n1_ n2_; (try clear hb); (try clear hb2); (try clear hk); (try clear hi)) | ((with_reducible refine gate_callee (f := 46) rfl ?_); refine goesL_ (some 29) rfl rfl Try.func46 (by kernel_rfl) rfl #[.string t203, .int .i64 4, .int .i64 2] rfl (by (try simp only [List.map_toArray, List.map_cons, List.map_nil]); first | done | rfl | (simp only [List.length_drop, List.length_take]; rfl)) ?_; (with_reducible refine (carouselref01_Get.calls k t203 4 2 t207 _ A7.out).mono ?_); rintro e w15 ⟨rfl, hb⟩; refine ⟨_, rfl, ?_⟩; have n0_ := Aside0.mk (blk_below (g := gb197) (o := .cells #[.bool false, .int .u8 0, .int .u32 0, .int .u16 0, .string (⟨#[]⟩ : ByteArray)] 30 (0, 0)) (by (with_reducible repeat (first | refine blk_drewN ?_ _ | refine blk_drew ?_ | refine blk_alloc ?_ _)); exact BK197.out) hb); have n1_ := Aside0.mk (blk_below (g := gb205) (o := .cells #[.int .u8 t198, .int .u8 t199, .int .u8 t200, .int .u8 t201, .int .u8 t202] 87 (0, 0)) (by (with_reducible repeat (first | refine blk_drewN ?_ _ | refine blk_drew ?_ | refine blk_alloc ?_ _)); exact BK205.out) hb); have n2_ := Aside0.mk (below_step (by repeat (first | (with_reducible first | exact HB.out | apply below_alloc | apply pw_below_drewN | apply below_drew1 | refine below_set ?_ GE197.out | refine below_set ?_ GE205.out) | exact HB.out)) hb); clear BK197; clear BK205; clear HB; have BK197 := n0_; have BK205 := n1_; have HB := n2_; clear n0_ n1_ n2_; (try clear hb); (try clear hb2); (try clear hk); (try clear hi)))
      (try simp only [Act.put, List.setIfInBounds_toArray, List.set_cons_zero, List.set_cons_succ])
      go_cut [45] (fun v45 wc => ∃ (kq : Nat) (x45_7 : Bool), v45 = .bool x45_7 ∧ Aside0 (carouselref06_Open.j0 kq t203 t207 x45_7 t198 t199 t200 t201 t202 = some (r1, r2, r3, r4, r5, r6)) ∧ Aside0 (kq ≤ k) ∧ Aside0 (wc.heap[gb197]? = some (.cells #[.bool false, .int .u8 0, .int .u32 0, .int .u16 0, .string (⟨#[]⟩ : ByteArray)] 30 (0, 0))) ∧ Aside0 (wc.heap[gb205]? = some (.cells #[.int .u8 t198, .int .u8 t199, .int .u8 t200, .int .u8 t201, .int .u8 t202] 87 (0, 0))) ∧ Aside0 (Below w.heap.size w wc))
      case first =>
        have H := HC8.out
        clear HC8
        by_cases c16 : t207 ≥ 8192
        · rw [if_pos c16] at H
          have c16b0 : decide (8192 ≤ t207) = true := decide_eq_true c16
          clear c16
          (first | rw [c16b0] | (simp only [i64_w, i32_w]; rw [c16b0]) | skip)
          have H' := Aside0.mk H
          clear H
          try go_wp2
          have n0_ := Aside0.mk (blk_drew BK197.out)
          have n1_ := Aside0.mk (blk_drew BK205.out)
          have n2_ := Aside0.mk (below_drew1 HB.out)
          clear BK197
          clear BK205
          clear HB
          have BK197 := n0_
          have BK205 := n1_
          have HB := n2_
          clear n0_ n1_ n2_
          refine start_ (n := 16) (S := fun w' => True) (ds := []) #[false, false, false, false, false, false, false, false, false, false, false, false, false, false, false, false] (by kernel_rfl) rfl rfl trivial (fun hHeld => ?_); refine with_tabW carouselref06_Open.tab8 carouselref06_Open.bits8 (fun HT_ HW_ => ?_)
          generalize w15.drew = w17 at BK197 BK205 HB hHeld ⊢
          refine pure_ (i := 0) (N := some 30) (v := ?_) (a' := ?_) #[true, false, false, false, false, false, false, false, false, false, false, false, false, false, false, false] rfl rfl (any_of HT_.out (by kernel_rfl)) (fun _ _ _ h => h) (Or.inl ⟨by rfl, ?_⟩) ?_ ?_
          rotate_left
          · intro w'
            go_simp
            with_reducible rfl
          rotate_left
          · simp only [Act.put, List.setIfInBounds_toArray, List.set_cons_zero, List.set_cons_succ, i64_w, i32_w]
            rfl
          refine pure_ (i := 1) (N := some 31) (v := ?_) (a' := ?_) #[true, true, false, false, false, false, false, false, false, false, false, false, false, false, false, false] rfl rfl (any_of HT_.out (by kernel_rfl)) (fun _ _ _ h => h) (Or.inl ⟨by rfl, ?_⟩) ?_ ?_
          rotate_left
          · intro w'
            go_simp
            with_reducible rfl
          rotate_left
          · simp only [Act.put, List.setIfInBounds_toArray, List.set_cons_zero, List.set_cons_succ, i64_w, i32_w]
            rfl
          refine pure_ (i := 2) (N := some 32) (v := ?_) (a' := ?_) #[true, true, true, false, false, false, false, false, false, false, false, false, false, false, false, false] rfl rfl (any_of HT_.out (by kernel_rfl)) (fun _ _ _ h => h) (Or.inl ⟨by rfl, ?_⟩) ?_ ?_
          rotate_left
          · intro w'
            go_simp
            with_reducible rfl
          rotate_left
          · simp only [Act.put, List.setIfInBounds_toArray, List.set_cons_zero, List.set_cons_succ, i64_w, i32_w]
            rfl
          refine pure_ (i := 3) (N := some 33) (v := undef) (a' := ?_) #[true, true, true, true, false, false, false, false, false, false, false, false, false, false, false, false] rfl rfl (any_of HT_.out (by kernel_rfl)) (fun _ _ _ h => h) (Or.inr ⟨by rfl, rfl⟩) ?_ ?_
          rotate_left
          · simp only [Act.put, List.setIfInBounds_toArray, List.set_cons_zero, List.set_cons_succ, i64_w, i32_w]
            rfl
          refine pure_ (i := 4) (N := some 34) (v := undef) (a' := ?_) #[true, true, true, true, true, false, false, false, false, false, false, false, false, false, false, false] rfl rfl (any_of HT_.out (by kernel_rfl)) (fun _ _ _ h => h) (Or.inr ⟨by rfl, rfl⟩) ?_ ?_
          rotate_left
          · simp only [Act.put, List.setIfInBounds_toArray, List.set_cons_zero, List.set_cons_succ, i64_w, i32_w]
            rfl
          refine pure_ (i := 5) (N := some 35) (v := undef) (a' := ?_) #[true, true, true, true, true, true, false, false, false, false, false, false, false, false, false, false] rfl rfl (any_of HT_.out (by kernel_rfl)) (fun _ _ _ h => h) (Or.inr ⟨by rfl, rfl⟩) ?_ ?_
          rotate_left
          · simp only [Act.put, List.setIfInBounds_toArray, List.set_cons_zero, List.set_cons_succ, i64_w, i32_w]
            rfl
          refine pure_ (i := 6) (N := some 36) (v := undef) (a' := ?_) #[true, true, true, true, true, true, true, false, false, false, false, false, false, false, false, false] rfl rfl (any_of HT_.out (by kernel_rfl)) (fun _ _ _ h => h) (Or.inr ⟨by rfl, rfl⟩) ?_ ?_
          rotate_left
          · simp only [Act.put, List.setIfInBounds_toArray, List.set_cons_zero, List.set_cons_succ, i64_w, i32_w]
            rfl
          refine pure_ (i := 7) (N := some 37) (v := undef) (a' := ?_) #[true, true, true, true, true, true, true, true, false, false, false, false, false, false, false, false] rfl rfl (any_of HT_.out (by kernel_rfl)) (fun _ _ _ h => h) (Or.inr ⟨by rfl, rfl⟩) ?_ ?_
          rotate_left
          · simp only [Act.put, List.setIfInBounds_toArray, List.set_cons_zero, List.set_cons_succ, i64_w, i32_w]
            rfl
          refine pure_ (i := 8) (N := some 38) (v := ?_) (a' := ?_) #[true, true, true, true, true, true, true, true, true, false, false, false, false, false, false, false] rfl rfl (any_of HT_.out (by kernel_rfl)) (fun _ _ _ h => h) (Or.inl ⟨by rfl, ?_⟩) ?_ ?_
          rotate_left
          · intro w'
            go_simp
            with_reducible rfl
          rotate_left
          · simp only [Act.put, List.setIfInBounds_toArray, List.set_cons_zero, List.set_cons_succ, i64_w, i32_w]
            rfl
          refine pure_ (i := 9) (N := some 39) (v := ?_) (a' := ?_) #[true, true, true, true, true, true, true, true, true, true, false, false, false, false, false, false] rfl rfl (any_of HT_.out (by kernel_rfl)) (fun _ _ _ h => h) (Or.inl ⟨by rfl, ?_⟩) ?_ ?_
          rotate_left
          · intro w'
            go_simp
            with_reducible rfl
          rotate_left
          · simp only [Act.put, List.setIfInBounds_toArray, List.set_cons_zero, List.set_cons_succ, i64_w, i32_w]
            rfl
          refine pure_ (i := 10) (N := some 40) (v := undef) (a' := ?_) #[true, true, true, true, true, true, true, true, true, true, true, false, false, false, false, false] rfl rfl (any_of HT_.out (by kernel_rfl)) (fun _ _ _ h => h) (Or.inr ⟨by rfl, rfl⟩) ?_ ?_
          rotate_left
          · simp only [Act.put, List.setIfInBounds_toArray, List.set_cons_zero, List.set_cons_succ, i64_w, i32_w]
            rfl
          refine pure_ (i := 11) (N := some 41) (v := undef) (a' := ?_) #[true, true, true, true, true, true, true, true, true, true, true, true, false, false, false, false] rfl rfl (any_of HT_.out (by kernel_rfl)) (fun _ _ _ h => h) (Or.inr ⟨by rfl, rfl⟩) ?_ ?_
          rotate_left
          · simp only [Act.put, List.setIfInBounds_toArray, List.set_cons_zero, List.set_cons_succ, i64_w, i32_w]
            rfl
          refine pure_ (i := 12) (N := some 42) (v := undef) (a' := ?_) #[true, true, true, true, true, true, true, true, true, true, true, true, true, false, false, false] rfl rfl (any_of HT_.out (by kernel_rfl)) (fun _ _ _ h => h) (Or.inr ⟨by rfl, rfl⟩) ?_ ?_
          rotate_left
          · simp only [Act.put, List.setIfInBounds_toArray, List.set_cons_zero, List.set_cons_succ, i64_w, i32_w]
            rfl
          refine pure_ (i := 13) (N := some 43) (v := undef) (a' := ?_) #[true, true, true, true, true, true, true, true, true, true, true, true, true, true, false, false] rfl rfl (any_of HT_.out (by kernel_rfl)) (fun _ _ _ h => h) (Or.inr ⟨by rfl, rfl⟩) ?_ ?_
          rotate_left
          · simp only [Act.put, List.setIfInBounds_toArray, List.set_cons_zero, List.set_cons_succ, i64_w, i32_w]
            rfl
          refine pure_ (i := 14) (N := some 44) (v := undef) (a' := ?_) #[true, true, true, true, true, true, true, true, true, true, true, true, true, true, true, false] rfl rfl (any_of HT_.out (by kernel_rfl)) (fun _ _ _ h => h) (Or.inr ⟨by rfl, rfl⟩) ?_ ?_
          rotate_left
          · simp only [Act.put, List.setIfInBounds_toArray, List.set_cons_zero, List.set_cons_succ, i64_w, i32_w]
            rfl
          refine pure_ (i := 15) (N := some 45) (v := ?_) (a' := ?_) #[true, true, true, true, true, true, true, true, true, true, true, true, true, true, true, true] rfl rfl (any_of HT_.out (by kernel_rfl)) (fun _ _ _ h => h) (Or.inl ⟨by rfl, ?_⟩) ?_ ?_
          rotate_left
          · intro w'
            go_simp
            with_reducible rfl
          rotate_left
          · simp only [Act.put, List.setIfInBounds_toArray, List.set_cons_zero, List.set_cons_succ, i64_w, i32_w]
            rfl
          refine done_ (done_of HT_.out (by kernel_rfl)) ?_
          try go_wp2
          go_meet
          case rel => exact ⟨_, (true), (by first | rfl | (simp; done) | (simp [*]; done)), H', ⟨by first | omega | exact Nat.le_refl _⟩, ⟨by (with_reducible repeat (first | refine blk_drewN ?_ _ | refine blk_drew ?_ | refine blk_alloc ?_ _)); exact BK197.out⟩, ⟨by (with_reducible repeat (first | refine blk_drewN ?_ _ | refine blk_drew ?_ | refine blk_alloc ?_ _)); exact BK205.out⟩, ⟨by repeat (first | (with_reducible first | exact HB.out | apply below_alloc | apply pw_below_drewN | apply below_drew1 | refine below_set ?_ GE197.out | refine below_set ?_ GE205.out) | exact HB.out)⟩⟩
        · rw [if_neg c16] at H
          have c16b0 : decide (8192 ≤ t207) = false := decide_eq_false c16
          clear c16
          (first | rw [c16b0] | (simp only [i64_w, i32_w]; rw [c16b0]) | skip)
          by_cases c18 : (Int.tmod (IntKind.u8.wrap (Int.tdiv t201 8)) 16) = 0
          · rw [if_pos c18] at H
            have c18b0 : ((Int.tmod (IntKind.u8.wrap (Int.tdiv t201 8)) 16) == 0) = true := beq_iff_eq.mpr c18
            have c18b1 : ((Int.tmod (IntKind.u8.wrap (Int.tdiv t201 8)) 16) != 0) = false := bne_eq_false_iff_eq.mpr c18
            clear c18
            by_cases c19 : 54 ≤ (t203.size : Int)
            · rw [if_pos c19] at H
              have c19b0 := eq_true c19
              have c19b1 : decide (54 ≤ (t203.size : Int)) = true := decide_eq_true c19
              clear c19
              by_cases c20 : 16 ≤ 281474976710656
              · rw [if_pos c20] at H
                have c20b0 := eq_true c20
                have c20b1 : decide (16 ≤ 281474976710656) = true := decide_eq_true c20
                clear c20
                obtain ⟨y208, hy208⟩ : ∃ y_ : List Int, y_ = (List.replicate 16 0) := ⟨_, rfl⟩
                replace H : (carouselref06_Open.j0 k t203 t207 ((t203.extract 54 t203.size).toList != (strOfNums y208).toList) t198 t199 t200 t201 t202) = some (r1, r2, r3, r4, r5, r6) := by first | (rw [hy208]; with_reducible exact H) | (have H2_ := (Option.bind_some _ _).symm.trans H; rw [hy208]; with_reducible exact H2_) | (have H2_ := (Option.bind_some _ _).symm.trans H; with_reducible exact H2_) | with_reducible exact H | (rw [hy208]; exact H) | exact H
                have Ny208 := Aside0.mk hy208
                clear hy208
                have H' := Aside0.mk H
                clear H
                try go_wp2
                have n0_ := Aside0.mk (blk_drew BK197.out)
                have n1_ := Aside0.mk (blk_drew BK205.out)
                have n2_ := Aside0.mk (below_drew1 HB.out)
                clear BK197
                clear BK205
                clear HB
                have BK197 := n0_
                have BK205 := n1_
                have HB := n2_
                clear n0_ n1_ n2_
                refine start_ (n := 16) (S := fun w' => w'.cell? ⟨gb205, 0, none⟩ = some (.int .u8 t198) ∧ w'.cell? ⟨gb205, 1, none⟩ = some (.int .u8 t199) ∧ w'.cell? ⟨gb205, 2, none⟩ = some (.int .u8 t200) ∧ w'.cell? ⟨gb205, 3, none⟩ = some (.int .u8 t201) ∧ w'.cell? ⟨gb205, 4, none⟩ = some (.int .u8 t202)) (ds := []) #[false, false, false, false, false, false, false, false, false, false, false, false, false, false, false, false] (by kernel_rfl) rfl rfl ⟨(blk_cell BK205.out 0).trans rfl, (blk_cell BK205.out 1).trans rfl, (blk_cell BK205.out 2).trans rfl, (blk_cell BK205.out 3).trans rfl, (blk_cell BK205.out 4).trans rfl⟩ (fun hHeld => ?_); refine with_tabW carouselref06_Open.tab8 carouselref06_Open.bits8 (fun HT_ HW_ => ?_)
                generalize w15.drew = w21 at BK197 BK205 HB hHeld ⊢
                refine pure_ (i := 0) (N := some 30) (v := ?_) (a' := ?_) #[true, false, false, false, false, false, false, false, false, false, false, false, false, false, false, false] rfl rfl (any_of HT_.out (by kernel_rfl)) (fun _ _ _ h => h) (Or.inl ⟨by rfl, ?_⟩) ?_ ?_
                rotate_left
                · intro w'
                  go_simp
                  with_reducible rfl
                rotate_left
                · simp only [Act.put, List.setIfInBounds_toArray, List.set_cons_zero, List.set_cons_succ, i64_w, i32_w]
                  rfl
                refine pure_ (i := 1) (N := some 31) (v := ?_) (a' := ?_) #[true, true, false, false, false, false, false, false, false, false, false, false, false, false, false, false] rfl rfl (any_of HT_.out (by kernel_rfl)) (fun _ _ _ h => h) (Or.inl ⟨by rfl, ?_⟩) ?_ ?_
                rotate_left
                · intro w'
                  go_simp
                  with_reducible rfl
                rotate_left
                · simp only [Act.put, List.setIfInBounds_toArray, List.set_cons_zero, List.set_cons_succ, i64_w, i32_w]
                  rfl
                refine pure_ (i := 2) (N := some 32) (v := ?_) (a' := ?_) #[true, true, true, false, false, false, false, false, false, false, false, false, false, false, false, false] rfl rfl (any_of HT_.out (by kernel_rfl)) (fun _ _ _ h => h) (Or.inl ⟨by rfl, ?_⟩) ?_ ?_
                rotate_left
                · intro w'
                  go_simp
                  with_reducible rfl
                rotate_left
                · simp only [Act.put, List.setIfInBounds_toArray, List.set_cons_zero, List.set_cons_succ, i64_w, i32_w]
                  rfl
                refine pure_ (i := 3) (N := some 33) (v := ?_) (a' := ?_) #[true, true, true, true, false, false, false, false, false, false, false, false, false, false, false, false] rfl rfl (any_of HT_.out (by kernel_rfl)) (fun _ _ _ h => h) (Or.inl ⟨by rfl, ?_⟩) ?_ ?_
                rotate_left
                · intro w'
                  go_simp
                  with_reducible rfl
                rotate_left
                · simp only [Act.put, List.setIfInBounds_toArray, List.set_cons_zero, List.set_cons_succ, i64_w, i32_w]
                  rfl
                refine take_ (i := 4) (N := some 34) (v := ?_) (a' := ?_) #[true, true, true, true, true, false, false, false, false, false, false, false, false, false, false, false] rfl rfl (take_ofW HT_.out HW_.out (by kernel_rfl)) (fun _ _ _ h => h) (Or.inl ⟨by rfl, ?_⟩) hHeld ?_ ?_
                rotate_left
                · rintro w' ⟨s0, s1, s2, s3, s4⟩
                  go_simp
                  with_reducible rfl
                rotate_left
                · simp only [Act.put, List.setIfInBounds_toArray, List.set_cons_zero, List.set_cons_succ, i64_w, i32_w]
                  rfl
                refine pure_ (i := 5) (N := some 35) (v := ?_) (a' := ?_) #[true, true, true, true, true, true, false, false, false, false, false, false, false, false, false, false] rfl rfl (any_of HT_.out (by kernel_rfl)) (fun _ _ _ h => h) (Or.inl ⟨by rfl, ?_⟩) ?_ ?_
                rotate_left
                · intro w'
                  go_simp
                  with_reducible rfl
                rotate_left
                · simp only [Act.put, List.setIfInBounds_toArray, List.set_cons_zero, List.set_cons_succ, i64_w, i32_w]
                  rfl
                refine pure_ (i := 6) (N := some 36) (v := ?_) (a' := ?_) #[true, true, true, true, true, true, true, false, false, false, false, false, false, false, false, false] rfl rfl (any_of HT_.out (by kernel_rfl)) (fun _ _ _ h => h) (Or.inl ⟨by rfl, ?_⟩) ?_ ?_
                rotate_left
                · intro w'
                  go_simp
                  with_reducible rfl
                rotate_left
                · simp only [Act.put, List.setIfInBounds_toArray, List.set_cons_zero, List.set_cons_succ, i64_w, i32_w]
                  rfl
                refine pure_ (i := 7) (N := some 37) (v := ?_) (a' := ?_) #[true, true, true, true, true, true, true, true, false, false, false, false, false, false, false, false] rfl rfl (any_of HT_.out (by kernel_rfl)) (fun _ _ _ h => h) (Or.inl ⟨by rfl, ?_⟩) ?_ ?_
                rotate_left
                · intro w'
                  go_simp
                  with_reducible rfl
                rotate_left
                · simp only [Act.put, List.setIfInBounds_toArray, List.set_cons_zero, List.set_cons_succ, i64_w, i32_w]
                  rfl
                refine pure_ (i := 8) (N := some 38) (v := ?_) (a' := ?_) #[true, true, true, true, true, true, true, true, true, false, false, false, false, false, false, false] rfl rfl (any_of HT_.out (by kernel_rfl)) (fun _ _ _ h => h) (Or.inl ⟨by rfl, ?_⟩) ?_ ?_
                rotate_left
                · intro w'
                  go_simp
                  with_reducible rfl
                rotate_left
                · simp only [Act.put, List.setIfInBounds_toArray, List.set_cons_zero, List.set_cons_succ, i64_w, i32_w]
                  rfl
                refine pure_ (i := 9) (N := some 39) (v := ?_) (a' := ?_) #[true, true, true, true, true, true, true, true, true, true, false, false, false, false, false, false] rfl rfl (any_of HT_.out (by kernel_rfl)) (fun _ _ _ h => h) (Or.inl ⟨by rfl, ?_⟩) ?_ ?_
                rotate_left
                · intro w'
                  go_simp
                  with_reducible rfl
                rotate_left
                · simp only [Act.put, List.setIfInBounds_toArray, List.set_cons_zero, List.set_cons_succ, i64_w, i32_w]
                  rfl
                refine pure_ (i := 10) (N := some 40) (v := ?_) (a' := ?_) #[true, true, true, true, true, true, true, true, true, true, true, false, false, false, false, false] rfl rfl (any_of HT_.out (by kernel_rfl)) (fun _ _ _ h => h) (Or.inl ⟨by rfl, ?_⟩) ?_ ?_
                rotate_left
                · intro w'
                  go_simp
                  with_reducible rfl
                rotate_left
                · simp only [Act.put, List.setIfInBounds_toArray, List.set_cons_zero, List.set_cons_succ, i64_w, i32_w]
                  rfl
                refine pure_ (i := 11) (N := some 41) (v := ?_) (a' := ?_) #[true, true, true, true, true, true, true, true, true, true, true, true, false, false, false, false] rfl rfl (any_of HT_.out (by kernel_rfl)) (fun _ _ _ h => h) (Or.inl ⟨by rfl, ?_⟩) ?_ ?_
                rotate_left
                · intro w'
                  go_simp
                  with_reducible rfl
                rotate_left
                · simp only [Act.put, List.setIfInBounds_toArray, List.set_cons_zero, List.set_cons_succ, i64_w, i32_w]
                  rfl
                refine one_ (i := 12) (N := some 42) #[true, true, true, true, true, true, true, true, true, true, true, true, true, false, false, false] rfl rfl (one_of HT_.out (by kernel_rfl)) (by decide) (fun K hK => ?_)
                refine Kd.R_make_step (Kd.int .u8) _ 5 (by rfl) (N := 42) rfl 92 _ _ rfl 16 rfl rfl Try.underlying92 (.int .u8 0) 1 info5 rfl (by decide) (by omega) 0 (ok := fun _ => True) (okp := fun _ => True) rfl (fun _ hk => hk) trivial (by omega) (by omega) (Below.refl _ _) (Nat.le_refl _) ?_
                intro v209 w22 ho23 hb hg_ hnew_
                clear hg_ hnew_
                (first | rw [← Ny208.out] at ho23 | (simp only [Int.reduceToNat] at ho23; rw [← Ny208.out] at ho23))
                have n0_ := Aside0.mk (Kd.R_lower ho23 (below_size (by repeat (first | (with_reducible first | exact HB.out | apply below_alloc | apply pw_below_drewN | apply below_drew1 | refine below_set ?_ GE197.out | refine below_set ?_ GE205.out) | exact HB.out))))
                have n1_ := Aside0.mk (blk_below (g := gb197) (o := .cells #[.bool false, .int .u8 0, .int .u32 0, .int .u16 0, .string (⟨#[]⟩ : ByteArray)] 30 (0, 0)) (by (with_reducible repeat (first | refine blk_drewN ?_ _ | refine blk_drew ?_ | refine blk_alloc ?_ _)); exact BK197.out) hb)
                have n2_ := Aside0.mk (blk_below (g := gb205) (o := .cells #[.int .u8 t198, .int .u8 t199, .int .u8 t200, .int .u8 t201, .int .u8 t202] 87 (0, 0)) (by (with_reducible repeat (first | refine blk_drewN ?_ _ | refine blk_drew ?_ | refine blk_alloc ?_ _)); exact BK205.out) hb)
                have n3_ := Aside0.mk (below_step (by repeat (first | (with_reducible first | exact HB.out | apply below_alloc | apply pw_below_drewN | apply below_drew1 | refine below_set ?_ GE197.out | refine below_set ?_ GE205.out) | exact HB.out)) hb)
                clear BK197
                clear BK205
                clear HB
                have HO210 := n0_
                have BK197 := n1_
                have BK205 := n2_
                have HB := n3_
                clear n0_ n1_ n2_ n3_
                clear hb ho23
                refine hK.out _ _ ⟨(blk_cell BK205.out 0).trans rfl, (blk_cell BK205.out 1).trans rfl, (blk_cell BK205.out 2).trans rfl, (blk_cell BK205.out 3).trans rfl, (blk_cell BK205.out 4).trans rfl⟩ (fun hHeld => ?_)
                clear hK K
                refine norm_ (a' := ?_) ?_ ?_
                rotate_left
                · show Act.put _ (some 42) _ = _
                  simp only [Act.put, List.setIfInBounds_toArray, List.set_cons_zero, List.set_cons_succ, i64_w, i32_w]
                  rfl
                refine one_ (i := 13) (N := some 43) #[true, true, true, true, true, true, true, true, true, true, true, true, true, true, false, false] rfl rfl (one_of HT_.out (by kernel_rfl)) (by decide) (fun K hK => ?_)
                have hcv24 := own_string (P := Try.prog) Try.underlying92 Try.underlying5 Try.underlying9 (Kd.own_of_R HO210.out)
                refine value_ (w1 := ?_) (v := ?_) (by rfl) rfl ?_ ?_
                rotate_left 2
                · go_simp
                  constructor
                  · rfl
                  · rfl
                clear hcv24
                refine hK.out _ _ ⟨(blk_cell BK205.out 0).trans rfl, (blk_cell BK205.out 1).trans rfl, (blk_cell BK205.out 2).trans rfl, (blk_cell BK205.out 3).trans rfl, (blk_cell BK205.out 4).trans rfl⟩ (fun hHeld => ?_)
                clear hK K
                refine norm_ (a' := ?_) ?_ ?_
                rotate_left
                · show Act.put _ (some 43) _ = _
                  simp only [Act.put, List.setIfInBounds_toArray, List.set_cons_zero, List.set_cons_succ, i64_w, i32_w]
                  rfl
                refine pure_ (i := 14) (N := some 44) (v := ?_) (a' := ?_) #[true, true, true, true, true, true, true, true, true, true, true, true, true, true, true, false] rfl rfl (any_of HT_.out (by kernel_rfl)) (fun _ _ _ h => h) (Or.inl ⟨by rfl, ?_⟩) ?_ ?_
                rotate_left
                · intro w'
                  go_simp
                  with_reducible rfl
                rotate_left
                · simp only [Act.put, List.setIfInBounds_toArray, List.set_cons_zero, List.set_cons_succ, i64_w, i32_w]
                  rfl
                refine pure_ (i := 15) (N := some 45) (v := ?_) (a' := ?_) #[true, true, true, true, true, true, true, true, true, true, true, true, true, true, true, true] rfl rfl (any_of HT_.out (by kernel_rfl)) (fun _ _ _ h => h) (Or.inl ⟨by rfl, ?_⟩) ?_ ?_
                rotate_left
                · intro w'
                  go_simp
                  with_reducible rfl
                rotate_left
                · simp only [Act.put, List.setIfInBounds_toArray, List.set_cons_zero, List.set_cons_succ, i64_w, i32_w]
                  rfl
                refine done_ (done_of HT_.out (by kernel_rfl)) ?_
                try go_wp2
                go_meet
                case rel => exact ⟨_, (((t203.extract 54 t203.size).toList != (strOfNums y208).toList)), (by first | rfl | (simp; done) | (simp [*]; done)), H', ⟨by first | omega | exact Nat.le_refl _⟩, ⟨by (with_reducible repeat (first | refine blk_drewN ?_ _ | refine blk_drew ?_ | refine blk_alloc ?_ _)); exact BK197.out⟩, ⟨by (with_reducible repeat (first | refine blk_drewN ?_ _ | refine blk_drew ?_ | refine blk_alloc ?_ _)); exact BK205.out⟩, ⟨by repeat (first | (with_reducible first | exact HB.out | apply below_alloc | apply pw_below_drewN | apply below_drew1 | refine below_set ?_ GE197.out | refine below_set ?_ GE205.out) | exact HB.out)⟩⟩
              · rw [if_neg c20] at H
                exact absurd H (by simp)
            · rw [if_neg c19] at H
              exact absurd H (by simp)
          · rw [if_neg c18] at H
            have c18b0 : ((Int.tmod (IntKind.u8.wrap (Int.tdiv t201 8)) 16) == 0) = false := beq_eq_false_iff_ne.mpr c18
            have c18b1 : ((Int.tmod (IntKind.u8.wrap (Int.tdiv t201 8)) 16) != 0) = true := bne_iff_ne.mpr c18
            have H' := Aside0.mk H
            clear H
            try go_wp2
            have n0_ := Aside0.mk (blk_drew BK197.out)
            have n1_ := Aside0.mk (blk_drew BK205.out)
            have n2_ := Aside0.mk (below_drew1 HB.out)
            clear BK197
            clear BK205
            clear HB
            have BK197 := n0_
            have BK205 := n1_
            have HB := n2_
            clear n0_ n1_ n2_
            refine start_ (n := 16) (S := fun w' => w'.cell? ⟨gb205, 0, none⟩ = some (.int .u8 t198) ∧ w'.cell? ⟨gb205, 1, none⟩ = some (.int .u8 t199) ∧ w'.cell? ⟨gb205, 2, none⟩ = some (.int .u8 t200) ∧ w'.cell? ⟨gb205, 3, none⟩ = some (.int .u8 t201) ∧ w'.cell? ⟨gb205, 4, none⟩ = some (.int .u8 t202)) (ds := []) #[false, false, false, false, false, false, false, false, false, false, false, false, false, false, false, false] (by kernel_rfl) rfl rfl ⟨(blk_cell BK205.out 0).trans rfl, (blk_cell BK205.out 1).trans rfl, (blk_cell BK205.out 2).trans rfl, (blk_cell BK205.out 3).trans rfl, (blk_cell BK205.out 4).trans rfl⟩ (fun hHeld => ?_); refine with_tabW carouselref06_Open.tab8 carouselref06_Open.bits8 (fun HT_ HW_ => ?_)
            generalize w15.drew = w25 at BK197 BK205 HB hHeld ⊢
            refine pure_ (i := 0) (N := some 30) (v := ?_) (a' := ?_) #[true, false, false, false, false, false, false, false, false, false, false, false, false, false, false, false] rfl rfl (any_of HT_.out (by kernel_rfl)) (fun _ _ _ h => h) (Or.inl ⟨by rfl, ?_⟩) ?_ ?_
            rotate_left
            · intro w'
              go_simp
              with_reducible rfl
            rotate_left
            · simp only [Act.put, List.setIfInBounds_toArray, List.set_cons_zero, List.set_cons_succ, i64_w, i32_w]
              rfl
            refine pure_ (i := 1) (N := some 31) (v := ?_) (a' := ?_) #[true, true, false, false, false, false, false, false, false, false, false, false, false, false, false, false] rfl rfl (any_of HT_.out (by kernel_rfl)) (fun _ _ _ h => h) (Or.inl ⟨by rfl, ?_⟩) ?_ ?_
            rotate_left
            · intro w'
              go_simp
              with_reducible rfl
            rotate_left
            · simp only [Act.put, List.setIfInBounds_toArray, List.set_cons_zero, List.set_cons_succ, i64_w, i32_w]
              rfl
            refine pure_ (i := 2) (N := some 32) (v := ?_) (a' := ?_) #[true, true, true, false, false, false, false, false, false, false, false, false, false, false, false, false] rfl rfl (any_of HT_.out (by kernel_rfl)) (fun _ _ _ h => h) (Or.inl ⟨by rfl, ?_⟩) ?_ ?_
            rotate_left
            · intro w'
              go_simp
              with_reducible rfl
            rotate_left
            · simp only [Act.put, List.setIfInBounds_toArray, List.set_cons_zero, List.set_cons_succ, i64_w, i32_w]
              rfl
            refine pure_ (i := 3) (N := some 33) (v := ?_) (a' := ?_) #[true, true, true, true, false, false, false, false, false, false, false, false, false, false, false, false] rfl rfl (any_of HT_.out (by kernel_rfl)) (fun _ _ _ h => h) (Or.inl ⟨by rfl, ?_⟩) ?_ ?_
            rotate_left
            · intro w'
              go_simp
              with_reducible rfl
            rotate_left
            · simp only [Act.put, List.setIfInBounds_toArray, List.set_cons_zero, List.set_cons_succ, i64_w, i32_w]
              rfl
            refine take_ (i := 4) (N := some 34) (v := ?_) (a' := ?_) #[true, true, true, true, true, false, false, false, false, false, false, false, false, false, false, false] rfl rfl (take_ofW HT_.out HW_.out (by kernel_rfl)) (fun _ _ _ h => h) (Or.inl ⟨by rfl, ?_⟩) hHeld ?_ ?_
            rotate_left
            · rintro w' ⟨s0, s1, s2, s3, s4⟩
              go_simp
              with_reducible rfl
            rotate_left
            · simp only [Act.put, List.setIfInBounds_toArray, List.set_cons_zero, List.set_cons_succ, i64_w, i32_w]
              rfl
            refine pure_ (i := 5) (N := some 35) (v := ?_) (a' := ?_) #[true, true, true, true, true, true, false, false, false, false, false, false, false, false, false, false] rfl rfl (any_of HT_.out (by kernel_rfl)) (fun _ _ _ h => h) (Or.inl ⟨by rfl, ?_⟩) ?_ ?_
            rotate_left
            · intro w'
              go_simp
              with_reducible rfl
            rotate_left
            · simp only [Act.put, List.setIfInBounds_toArray, List.set_cons_zero, List.set_cons_succ, i64_w, i32_w]
              rfl
            refine pure_ (i := 6) (N := some 36) (v := ?_) (a' := ?_) #[true, true, true, true, true, true, true, false, false, false, false, false, false, false, false, false] rfl rfl (any_of HT_.out (by kernel_rfl)) (fun _ _ _ h => h) (Or.inl ⟨by rfl, ?_⟩) ?_ ?_
            rotate_left
            · intro w'
              go_simp
              with_reducible rfl
            rotate_left
            · simp only [Act.put, List.setIfInBounds_toArray, List.set_cons_zero, List.set_cons_succ, i64_w, i32_w]
              rfl
            refine pure_ (i := 7) (N := some 37) (v := ?_) (a' := ?_) #[true, true, true, true, true, true, true, true, false, false, false, false, false, false, false, false] rfl rfl (any_of HT_.out (by kernel_rfl)) (fun _ _ _ h => h) (Or.inl ⟨by rfl, ?_⟩) ?_ ?_
            rotate_left
            · intro w'
              go_simp
              with_reducible rfl
            rotate_left
            · simp only [Act.put, List.setIfInBounds_toArray, List.set_cons_zero, List.set_cons_succ, i64_w, i32_w]
              rfl
            refine pure_ (i := 8) (N := some 38) (v := ?_) (a' := ?_) #[true, true, true, true, true, true, true, true, true, false, false, false, false, false, false, false] rfl rfl (any_of HT_.out (by kernel_rfl)) (fun _ _ _ h => h) (Or.inl ⟨by rfl, ?_⟩) ?_ ?_
            rotate_left
            · intro w'
              go_simp
              with_reducible rfl
            rotate_left
            · simp only [Act.put, List.setIfInBounds_toArray, List.set_cons_zero, List.set_cons_succ, i64_w, i32_w]
              rfl
            refine pure_ (i := 9) (N := some 39) (v := ?_) (a' := ?_) #[true, true, true, true, true, true, true, true, true, true, false, false, false, false, false, false] rfl rfl (any_of HT_.out (by kernel_rfl)) (fun _ _ _ h => h) (Or.inl ⟨by rfl, ?_⟩) ?_ ?_
            rotate_left
            · intro w'
              go_simp
              with_reducible rfl
            rotate_left
            · simp only [Act.put, List.setIfInBounds_toArray, List.set_cons_zero, List.set_cons_succ, i64_w, i32_w]
              rfl
            refine pure_ (i := 10) (N := some 40) (v := undef) (a' := ?_) #[true, true, true, true, true, true, true, true, true, true, true, false, false, false, false, false] rfl rfl (any_of HT_.out (by kernel_rfl)) (fun _ _ _ h => h) (Or.inr ⟨by rfl, rfl⟩) ?_ ?_
            rotate_left
            · simp only [Act.put, List.setIfInBounds_toArray, List.set_cons_zero, List.set_cons_succ, i64_w, i32_w]
              rfl
            refine pure_ (i := 11) (N := some 41) (v := undef) (a' := ?_) #[true, true, true, true, true, true, true, true, true, true, true, true, false, false, false, false] rfl rfl (any_of HT_.out (by kernel_rfl)) (fun _ _ _ h => h) (Or.inr ⟨by rfl, rfl⟩) ?_ ?_
            rotate_left
            · simp only [Act.put, List.setIfInBounds_toArray, List.set_cons_zero, List.set_cons_succ, i64_w, i32_w]
              rfl
            refine pure_ (i := 12) (N := some 42) (v := undef) (a' := ?_) #[true, true, true, true, true, true, true, true, true, true, true, true, true, false, false, false] rfl rfl (any_of HT_.out (by kernel_rfl)) (fun _ _ _ h => h) (Or.inr ⟨by rfl, rfl⟩) ?_ ?_
            rotate_left
            · simp only [Act.put, List.setIfInBounds_toArray, List.set_cons_zero, List.set_cons_succ, i64_w, i32_w]
              rfl
            refine pure_ (i := 13) (N := some 43) (v := undef) (a' := ?_) #[true, true, true, true, true, true, true, true, true, true, true, true, true, true, false, false] rfl rfl (any_of HT_.out (by kernel_rfl)) (fun _ _ _ h => h) (Or.inr ⟨by rfl, rfl⟩) ?_ ?_
            rotate_left
            · simp only [Act.put, List.setIfInBounds_toArray, List.set_cons_zero, List.set_cons_succ, i64_w, i32_w]
              rfl
            refine pure_ (i := 14) (N := some 44) (v := undef) (a' := ?_) #[true, true, true, true, true, true, true, true, true, true, true, true, true, true, true, false] rfl rfl (any_of HT_.out (by kernel_rfl)) (fun _ _ _ h => h) (Or.inr ⟨by rfl, rfl⟩) ?_ ?_
            rotate_left
            · simp only [Act.put, List.setIfInBounds_toArray, List.set_cons_zero, List.set_cons_succ, i64_w, i32_w]
              rfl
            refine pure_ (i := 15) (N := some 45) (v := ?_) (a' := ?_) #[true, true, true, true, true, true, true, true, true, true, true, true, true, true, true, true] rfl rfl (any_of HT_.out (by kernel_rfl)) (fun _ _ _ h => h) (Or.inl ⟨by rfl, ?_⟩) ?_ ?_
            rotate_left
            · intro w'
              go_simp
              with_reducible rfl
            rotate_left
            · simp only [Act.put, List.setIfInBounds_toArray, List.set_cons_zero, List.set_cons_succ, i64_w, i32_w]
              rfl
            refine done_ (done_of HT_.out (by kernel_rfl)) ?_
            try go_wp2
            go_meet
            case rel => exact ⟨_, (true), (by first | rfl | (simp; done) | (simp [*]; done)), H', ⟨by first | omega | exact Nat.le_refl _⟩, ⟨by (with_reducible repeat (first | refine blk_drewN ?_ _ | refine blk_drew ?_ | refine blk_alloc ?_ _)); exact BK197.out⟩, ⟨by (with_reducible repeat (first | refine blk_drewN ?_ _ | refine blk_drew ?_ | refine blk_alloc ?_ _)); exact BK205.out⟩, ⟨by repeat (first | (with_reducible first | exact HB.out | apply below_alloc | apply pw_below_drewN | apply below_drew1 | refine below_set ?_ GE197.out | refine below_set ?_ GE205.out) | exact HB.out)⟩⟩
      case rest =>
        clear HC8
        try clear c1
        try clear c2
        try clear p2
        try clear hcv2
        try clear c4
        try clear c4b0
        try clear c4b1
        try clear c6
        try clear c6b0
        try clear c6b1
        try clear c11
        try clear c12
        try clear c16
        try clear c16b0
        try clear c18
        try clear c18b0
        try clear c18b1
        try clear c19
        try clear c19b0
        try clear c19b1
        try clear c20
        try clear c20b0
        try clear c20b1
        try clear hcv24
        try clear hcz13_0
        try clear hcz13_1
        try clear hcz13_2
        try clear hcz13_3
        try clear hcz13_4
        try clear hfz13_0
        try clear hfz13_1
        try clear hfz13_2
        try clear hfz13_3
        try clear hfz13_4
        obtain ⟨kq, x45_7, rfl, HA, HJ7, BK197, BK205, HB⟩ := hcut
        cases kq with
        | zero => exact absurd HA.out (by simp [carouselref06_Open.j0])
        | succ kj7 =>
          have H := HA.out
          clear HA
          simp only [carouselref06_Open.j0] at H
          by_cases c26 : x45_7 = true
          · subst c26
            have H1 : (some (false, 0, 0, 0, (⟨#[]⟩ : ByteArray), 3)) = some (r1, r2, r3, r4, r5, r6) := by rw [if_pos rfl] at H; exact H
            clear H
            have H := H1
            clear H1
            simp only [Option.some.injEq, Prod.mk.injEq] at H
            obtain ⟨rfl, rfl, rfl, rfl, rfl, rfl⟩ := H
            have hnb27 := NB197_205.out
            have hnc27 := NB205_197.out
            have hcz28_0 : wc.cell? ⟨gb197, 0, none⟩ = some (.bool false) := (blk_cell BK197.out 0).trans rfl
            have hcz28_1 : wc.cell? ⟨gb197, 1, none⟩ = some (.int .u8 0) := (blk_cell BK197.out 1).trans rfl
            have hcz28_2 : wc.cell? ⟨gb197, 2, none⟩ = some (.int .u32 0) := (blk_cell BK197.out 2).trans rfl
            have hcz28_3 : wc.cell? ⟨gb197, 3, none⟩ = some (.int .u16 0) := (blk_cell BK197.out 3).trans rfl
            have hcz28_4 : wc.cell? ⟨gb197, 4, none⟩ = some (.string (⟨#[]⟩ : ByteArray)) := (blk_cell BK197.out 4).trans rfl
            have hfz28_0 := blk_frozen BK197.out 0
            have hfz28_1 := blk_frozen BK197.out 1
            have hfz28_2 := blk_frozen BK197.out 2
            have hfz28_3 := blk_frozen BK197.out 3
            have hfz28_4 := blk_frozen BK197.out 4
            go_wp2
            refine bodyPost_ret (results_ct rfl _ _ gb197 30 #[.bool false, .int .u8 0, .int .u32 0, .int .u16 0, .string (⟨#[]⟩ : ByteArray)] (0, 0) _ rfl (by (with_reducible repeat (first | refine blk_drewN ?_ _ | refine blk_drew ?_ | refine blk_alloc ?_ _)); refine blk_put (cs := #[.bool false, .int .u8 0, .int .u32 0, .int .u16 0, .string (⟨#[]⟩ : ByteArray)]) ?_ 4 _ rfl; (with_reducible repeat (first | refine blk_drewN ?_ _ | refine blk_drew ?_ | refine blk_alloc ?_ _)); refine blk_put (cs := #[.bool false, .int .u8 0, .int .u32 0, .int .u16 0, .string (⟨#[]⟩ : ByteArray)]) ?_ 3 _ rfl; (with_reducible repeat (first | refine blk_drewN ?_ _ | refine blk_drew ?_ | refine blk_alloc ?_ _)); refine blk_put (cs := #[.bool false, .int .u8 0, .int .u32 0, .int .u16 0, .string (⟨#[]⟩ : ByteArray)]) ?_ 2 _ rfl; (with_reducible repeat (first | refine blk_drewN ?_ _ | refine blk_drew ?_ | refine blk_alloc ?_ _)); refine blk_put (cs := #[.bool false, .int .u8 0, .int .u32 0, .int .u16 0, .string (⟨#[]⟩ : ByteArray)]) ?_ 1 _ rfl; (with_reducible repeat (first | refine blk_drewN ?_ _ | refine blk_drew ?_ | refine blk_alloc ?_ _)); refine blk_put (cs := #[.bool false, .int .u8 0, .int .u32 0, .int .u16 0, .string (⟨#[]⟩ : ByteArray)]) ?_ 0 _ rfl; (with_reducible repeat (first | refine blk_drewN ?_ _ | refine blk_drew ?_ | refine blk_alloc ?_ _)); exact BK197.out) Try.underlying30 rfl (by kernel_rfl)) rfl ?_
            exact ⟨by first | rfl | (simp [errW_none, errW_some] <;> rfl) | (simp [*, errW_none, errW_some] <;> rfl), by repeat (first | (with_reducible first | exact HB.out | apply below_alloc | apply pw_below_drewN | apply below_drew1 | refine below_set ?_ GE197.out | refine below_set ?_ GE205.out) | exact HB.out)⟩
          · replace c26 := Bool.eq_false_iff.mpr c26
            subst c26
            have H1 : (if (Int.tmod t201 8) = 0 then (some (false, 0, 0, 0, (⟨#[]⟩ : ByteArray), 4)) else (if t207 = 0 then (some (false, 0, 0, 0, (⟨#[]⟩ : ByteArray), 4)) else ((carouselref01_Get.f kj7 t203 0 4).bind fun t211 => (if 6 ≤ 54 then (if 54 ≤ (t203.size : Int) then (some (decide (t201 ≥ 128), Int.tmod t201 8, (t211) % 4294967296, IntKind.u16.wrap (t207), t203.extract 6 54, 0)) else (none)) else (none))))) = some (r1, r2, r3, r4, r5, r6) := by rw [if_neg (show ¬ (false = true) by decide)] at H; exact H
            clear H
            have H := H1
            clear H1
            by_cases c29 : (Int.tmod t201 8) = 0
            · rw [if_pos c29] at H
              have c29b0 : ((Int.tmod t201 8) == 0) = true := beq_iff_eq.mpr c29
              have c29b1 : ((Int.tmod t201 8) != 0) = false := bne_eq_false_iff_eq.mpr c29
              clear c29
              simp only [Option.some.injEq, Prod.mk.injEq] at H
              obtain ⟨rfl, rfl, rfl, rfl, rfl, rfl⟩ := H
              have hnb30 := NB205_197.out
              have hnc30 := NB197_205.out
              have hcz31_0 : wc.cell? ⟨gb205, 0, none⟩ = some (.int .u8 t198) := (blk_cell BK205.out 0).trans rfl
              have hcz31_1 : wc.cell? ⟨gb205, 1, none⟩ = some (.int .u8 t199) := (blk_cell BK205.out 1).trans rfl
              have hcz31_2 : wc.cell? ⟨gb205, 2, none⟩ = some (.int .u8 t200) := (blk_cell BK205.out 2).trans rfl
              have hcz31_3 : wc.cell? ⟨gb205, 3, none⟩ = some (.int .u8 t201) := (blk_cell BK205.out 3).trans rfl
              have hcz31_4 : wc.cell? ⟨gb205, 4, none⟩ = some (.int .u8 t202) := (blk_cell BK205.out 4).trans rfl
              have hfz31_0 := blk_frozen BK205.out 0
              have hfz31_1 := blk_frozen BK205.out 1
              have hfz31_2 := blk_frozen BK205.out 2
              have hfz31_3 := blk_frozen BK205.out 3
              have hfz31_4 := blk_frozen BK205.out 4
              have hcz32_0 : wc.cell? ⟨gb197, 0, none⟩ = some (.bool false) := (blk_cell BK197.out 0).trans rfl
              have hcz32_1 : wc.cell? ⟨gb197, 1, none⟩ = some (.int .u8 0) := (blk_cell BK197.out 1).trans rfl
              have hcz32_2 : wc.cell? ⟨gb197, 2, none⟩ = some (.int .u32 0) := (blk_cell BK197.out 2).trans rfl
              have hcz32_3 : wc.cell? ⟨gb197, 3, none⟩ = some (.int .u16 0) := (blk_cell BK197.out 3).trans rfl
              have hcz32_4 : wc.cell? ⟨gb197, 4, none⟩ = some (.string (⟨#[]⟩ : ByteArray)) := (blk_cell BK197.out 4).trans rfl
              have hfz32_0 := blk_frozen BK197.out 0
              have hfz32_1 := blk_frozen BK197.out 1
              have hfz32_2 := blk_frozen BK197.out 2
              have hfz32_3 := blk_frozen BK197.out 3
              have hfz32_4 := blk_frozen BK197.out 4
              go_wp2
              refine bodyPost_ret (results_ct rfl _ _ gb197 30 #[.bool false, .int .u8 0, .int .u32 0, .int .u16 0, .string (⟨#[]⟩ : ByteArray)] (0, 0) _ rfl (by (with_reducible repeat (first | refine blk_drewN ?_ _ | refine blk_drew ?_ | refine blk_alloc ?_ _)); refine blk_put (cs := #[.bool false, .int .u8 0, .int .u32 0, .int .u16 0, .string (⟨#[]⟩ : ByteArray)]) ?_ 4 _ rfl; (with_reducible repeat (first | refine blk_drewN ?_ _ | refine blk_drew ?_ | refine blk_alloc ?_ _)); refine blk_put (cs := #[.bool false, .int .u8 0, .int .u32 0, .int .u16 0, .string (⟨#[]⟩ : ByteArray)]) ?_ 3 _ rfl; (with_reducible repeat (first | refine blk_drewN ?_ _ | refine blk_drew ?_ | refine blk_alloc ?_ _)); refine blk_put (cs := #[.bool false, .int .u8 0, .int .u32 0, .int .u16 0, .string (⟨#[]⟩ : ByteArray)]) ?_ 2 _ rfl; (with_reducible repeat (first | refine blk_drewN ?_ _ | refine blk_drew ?_ | refine blk_alloc ?_ _)); refine blk_put (cs := #[.bool false, .int .u8 0, .int .u32 0, .int .u16 0, .string (⟨#[]⟩ : ByteArray)]) ?_ 1 _ rfl; (with_reducible repeat (first | refine blk_drewN ?_ _ | refine blk_drew ?_ | refine blk_alloc ?_ _)); refine blk_put (cs := #[.bool false, .int .u8 0, .int .u32 0, .int .u16 0, .string (⟨#[]⟩ : ByteArray)]) ?_ 0 _ rfl; (with_reducible repeat (first | refine blk_drewN ?_ _ | refine blk_drew ?_ | refine blk_alloc ?_ _)); exact BK197.out) Try.underlying30 rfl (by kernel_rfl)) rfl ?_
              exact ⟨by first | rfl | (simp [errW_none, errW_some] <;> rfl) | (simp [*, errW_none, errW_some] <;> rfl), by repeat (first | (with_reducible first | exact HB.out | apply below_alloc | apply pw_below_drewN | apply below_drew1 | refine below_set ?_ GE197.out | refine below_set ?_ GE205.out) | exact HB.out)⟩
            · rw [if_neg c29] at H
              have c29b0 : ((Int.tmod t201 8) == 0) = false := beq_eq_false_iff_ne.mpr c29
              have c29b1 : ((Int.tmod t201 8) != 0) = true := bne_iff_ne.mpr c29
              by_cases c33 : t207 = 0
              · rw [if_pos c33] at H
                have c33b0 : (t207 == 0) = true := beq_iff_eq.mpr c33
                have c33b1 : (t207 != 0) = false := bne_eq_false_iff_eq.mpr c33
                clear c33
                simp only [Option.some.injEq, Prod.mk.injEq] at H
                obtain ⟨rfl, rfl, rfl, rfl, rfl, rfl⟩ := H
                have hnb34 := NB205_197.out
                have hnc34 := NB197_205.out
                have hcz35_0 : wc.cell? ⟨gb205, 0, none⟩ = some (.int .u8 t198) := (blk_cell BK205.out 0).trans rfl
                have hcz35_1 : wc.cell? ⟨gb205, 1, none⟩ = some (.int .u8 t199) := (blk_cell BK205.out 1).trans rfl
                have hcz35_2 : wc.cell? ⟨gb205, 2, none⟩ = some (.int .u8 t200) := (blk_cell BK205.out 2).trans rfl
                have hcz35_3 : wc.cell? ⟨gb205, 3, none⟩ = some (.int .u8 t201) := (blk_cell BK205.out 3).trans rfl
                have hcz35_4 : wc.cell? ⟨gb205, 4, none⟩ = some (.int .u8 t202) := (blk_cell BK205.out 4).trans rfl
                have hfz35_0 := blk_frozen BK205.out 0
                have hfz35_1 := blk_frozen BK205.out 1
                have hfz35_2 := blk_frozen BK205.out 2
                have hfz35_3 := blk_frozen BK205.out 3
                have hfz35_4 := blk_frozen BK205.out 4
                have hcz36_0 : wc.cell? ⟨gb197, 0, none⟩ = some (.bool false) := (blk_cell BK197.out 0).trans rfl
                have hcz36_1 : wc.cell? ⟨gb197, 1, none⟩ = some (.int .u8 0) := (blk_cell BK197.out 1).trans rfl
                have hcz36_2 : wc.cell? ⟨gb197, 2, none⟩ = some (.int .u32 0) := (blk_cell BK197.out 2).trans rfl
                have hcz36_3 : wc.cell? ⟨gb197, 3, none⟩ = some (.int .u16 0) := (blk_cell BK197.out 3).trans rfl
                have hcz36_4 : wc.cell? ⟨gb197, 4, none⟩ = some (.string (⟨#[]⟩ : ByteArray)) := (blk_cell BK197.out 4).trans rfl
                have hfz36_0 := blk_frozen BK197.out 0
                have hfz36_1 := blk_frozen BK197.out 1
                have hfz36_2 := blk_frozen BK197.out 2
                have hfz36_3 := blk_frozen BK197.out 3
                have hfz36_4 := blk_frozen BK197.out 4
                go_wp2
                refine bodyPost_ret (results_ct rfl _ _ gb197 30 #[.bool false, .int .u8 0, .int .u32 0, .int .u16 0, .string (⟨#[]⟩ : ByteArray)] (0, 0) _ rfl (by (with_reducible repeat (first | refine blk_drewN ?_ _ | refine blk_drew ?_ | refine blk_alloc ?_ _)); refine blk_put (cs := #[.bool false, .int .u8 0, .int .u32 0, .int .u16 0, .string (⟨#[]⟩ : ByteArray)]) ?_ 4 _ rfl; (with_reducible repeat (first | refine blk_drewN ?_ _ | refine blk_drew ?_ | refine blk_alloc ?_ _)); refine blk_put (cs := #[.bool false, .int .u8 0, .int .u32 0, .int .u16 0, .string (⟨#[]⟩ : ByteArray)]) ?_ 3 _ rfl; (with_reducible repeat (first | refine blk_drewN ?_ _ | refine blk_drew ?_ | refine blk_alloc ?_ _)); refine blk_put (cs := #[.bool false, .int .u8 0, .int .u32 0, .int .u16 0, .string (⟨#[]⟩ : ByteArray)]) ?_ 2 _ rfl; (with_reducible repeat (first | refine blk_drewN ?_ _ | refine blk_drew ?_ | refine blk_alloc ?_ _)); refine blk_put (cs := #[.bool false, .int .u8 0, .int .u32 0, .int .u16 0, .string (⟨#[]⟩ : ByteArray)]) ?_ 1 _ rfl; (with_reducible repeat (first | refine blk_drewN ?_ _ | refine blk_drew ?_ | refine blk_alloc ?_ _)); refine blk_put (cs := #[.bool false, .int .u8 0, .int .u32 0, .int .u16 0, .string (⟨#[]⟩ : ByteArray)]) ?_ 0 _ rfl; (with_reducible repeat (first | refine blk_drewN ?_ _ | refine blk_drew ?_ | refine blk_alloc ?_ _)); exact BK197.out) Try.underlying30 rfl (by kernel_rfl)) rfl ?_
                exact ⟨by first | rfl | (simp [errW_none, errW_some] <;> rfl) | (simp [*, errW_none, errW_some] <;> rfl), by repeat (first | (with_reducible first | exact HB.out | apply below_alloc | apply pw_below_drewN | apply below_drew1 | refine below_set ?_ GE197.out | refine below_set ?_ GE205.out) | exact HB.out)⟩
              · rw [if_neg c33] at H
                have c33b0 : (t207 == 0) = false := beq_eq_false_iff_ne.mpr c33
                have c33b1 : (t207 != 0) = true := bne_iff_ne.mpr c33
                replace H := Option.bind_eq_some_iff.mp H
                obtain ⟨t211, A370, H⟩ := H
                replace H : (if 6 ≤ 54 then (if 54 ≤ (t203.size : Int) then (some (decide (t201 ≥ 128), Int.tmod t201 8, (t211) % 4294967296, IntKind.u16.wrap (t207), t203.extract 6 54, 0)) else (none)) else (none)) = some (r1, r2, r3, r4, r5, r6) := H
                have A37 := Aside0.mk A370
                clear A370
                by_cases c38 : 6 ≤ 54
                · rw [if_pos c38] at H
                  have c38b0 := eq_true c38
                  have c38b1 : decide (6 ≤ 54) = true := decide_eq_true c38
                  clear c38
                  by_cases c39 : 54 ≤ (t203.size : Int)
                  · rw [if_pos c39] at H
                    have c39b0 := eq_true c39
                    have c39b1 : decide (54 ≤ (t203.size : Int)) = true := decide_eq_true c39
                    clear c39
                    simp only [Option.some.injEq, Prod.mk.injEq] at H
                    obtain ⟨rfl, rfl, rfl, rfl, rfl, rfl⟩ := H
                    have hnb40 := NB205_197.out
                    have hnc40 := NB197_205.out
                    have hcz41_0 : wc.cell? ⟨gb205, 0, none⟩ = some (.int .u8 t198) := (blk_cell BK205.out 0).trans rfl
                    have hcz41_1 : wc.cell? ⟨gb205, 1, none⟩ = some (.int .u8 t199) := (blk_cell BK205.out 1).trans rfl
                    have hcz41_2 : wc.cell? ⟨gb205, 2, none⟩ = some (.int .u8 t200) := (blk_cell BK205.out 2).trans rfl
                    have hcz41_3 : wc.cell? ⟨gb205, 3, none⟩ = some (.int .u8 t201) := (blk_cell BK205.out 3).trans rfl
                    have hcz41_4 : wc.cell? ⟨gb205, 4, none⟩ = some (.int .u8 t202) := (blk_cell BK205.out 4).trans rfl
                    have hfz41_0 := blk_frozen BK205.out 0
                    have hfz41_1 := blk_frozen BK205.out 1
                    have hfz41_2 := blk_frozen BK205.out 2
                    have hfz41_3 := blk_frozen BK205.out 3
                    have hfz41_4 := blk_frozen BK205.out 4
                    try go_wp2
                    have n0_ := Aside0.mk (blk_drew BK197.out)
                    have n1_ := Aside0.mk (blk_drew BK205.out)
                    have n2_ := Aside0.mk (below_drew1 HB.out)
                    clear BK197
                    clear BK205
                    clear HB
                    have BK197 := n0_
                    have BK205 := n1_
                    have HB := n2_
                    clear n0_ n1_ n2_
                    refine start_ (n := 16) (S := fun w' => w'.cell? ⟨gb205, 0, none⟩ = some (.int .u8 t198) ∧ w'.cell? ⟨gb205, 1, none⟩ = some (.int .u8 t199) ∧ w'.cell? ⟨gb205, 2, none⟩ = some (.int .u8 t200) ∧ w'.cell? ⟨gb205, 3, none⟩ = some (.int .u8 t201) ∧ w'.cell? ⟨gb205, 4, none⟩ = some (.int .u8 t202)) (ds := []) #[false, false, false, false, false, false, false, false, false, false, false, false, false, false, false, false] (by kernel_rfl) rfl rfl ⟨(blk_cell BK205.out 0).trans rfl, (blk_cell BK205.out 1).trans rfl, (blk_cell BK205.out 2).trans rfl, (blk_cell BK205.out 3).trans rfl, (blk_cell BK205.out 4).trans rfl⟩ (fun hHeld => ?_); refine with_tabW carouselref06_Open.tab12 carouselref06_Open.bits12 (fun HT_ HW_ => ?_)
                    generalize wc.drew = w42 at BK197 BK205 HB hHeld ⊢
                    refine pure_ (i := 0) (N := some 56) (v := ?_) (a' := ?_) #[true, false, false, false, false, false, false, false, false, false, false, false, false, false, false, false] rfl rfl (any_of HT_.out (by kernel_rfl)) (fun _ _ _ h => h) (Or.inl ⟨by rfl, ?_⟩) ?_ ?_
                    rotate_left
                    · intro w'
                      go_simp
                      with_reducible rfl
                    rotate_left
                    · simp only [Act.put, List.setIfInBounds_toArray, List.set_cons_zero, List.set_cons_succ, i64_w, i32_w]
                      rfl
                    refine pure_ (i := 3) (N := some 59) (v := ?_) (a' := ?_) #[true, false, false, true, false, false, false, false, false, false, false, false, false, false, false, false] rfl rfl (any_of HT_.out (by kernel_rfl)) (fun _ _ _ h => h) (Or.inl ⟨by rfl, ?_⟩) ?_ ?_
                    rotate_left
                    · intro w'
                      go_simp
                      with_reducible rfl
                    rotate_left
                    · simp only [Act.put, List.setIfInBounds_toArray, List.set_cons_zero, List.set_cons_succ, i64_w, i32_w]
                      rfl
                    refine pure_ (i := 6) (N := some 62) (v := ?_) (a' := ?_) #[true, false, false, true, false, false, true, false, false, false, false, false, false, false, false, false] rfl rfl (any_of HT_.out (by kernel_rfl)) (fun _ _ _ h => h) (Or.inl ⟨by rfl, ?_⟩) ?_ ?_
                    rotate_left
                    · intro w'
                      go_simp
                      with_reducible rfl
                    rotate_left
                    · simp only [Act.put, List.setIfInBounds_toArray, List.set_cons_zero, List.set_cons_succ, i64_w, i32_w]
                      rfl
                    refine pure_ (i := 9) (N := some 65) (v := ?_) (a' := ?_) #[true, false, false, true, false, false, true, false, false, true, false, false, false, false, false, false] rfl rfl (any_of HT_.out (by kernel_rfl)) (fun _ _ _ h => h) (Or.inl ⟨by rfl, ?_⟩) ?_ ?_
                    rotate_left
                    · intro w'
                      go_simp
                      with_reducible rfl
                    rotate_left
                    · simp only [Act.put, List.setIfInBounds_toArray, List.set_cons_zero, List.set_cons_succ, i64_w, i32_w]
                      rfl
                    refine pure_ (i := 10) (N := some 66) (v := ?_) (a' := ?_) #[true, false, false, true, false, false, true, false, false, true, true, false, false, false, false, false] rfl rfl (any_of HT_.out (by kernel_rfl)) (fun _ _ _ h => h) (Or.inl ⟨by rfl, ?_⟩) ?_ ?_
                    rotate_left
                    · intro w'
                      go_simp
                      with_reducible rfl
                    rotate_left
                    · simp only [Act.put, List.setIfInBounds_toArray, List.set_cons_zero, List.set_cons_succ, i64_w, i32_w]
                      rfl
                    refine pure_ (i := 11) (N := some 67) (v := ?_) (a' := ?_) #[true, false, false, true, false, false, true, false, false, true, true, true, false, false, false, false] rfl rfl (any_of HT_.out (by kernel_rfl)) (fun _ _ _ h => h) (Or.inl ⟨by rfl, ?_⟩) ?_ ?_
                    rotate_left
                    · intro w'
                      go_simp
                      with_reducible rfl
                    rotate_left
                    · simp only [Act.put, List.setIfInBounds_toArray, List.set_cons_zero, List.set_cons_succ, i64_w, i32_w]
                      rfl
                    refine pure_ (i := 12) (N := some 68) (v := ?_) (a' := ?_) #[true, false, false, true, false, false, true, false, false, true, true, true, true, false, false, false] rfl rfl (any_of HT_.out (by kernel_rfl)) (fun _ _ _ h => h) (Or.inl ⟨by rfl, ?_⟩) ?_ ?_
                    rotate_left
                    · intro w'
                      go_simp
                      with_reducible rfl
                    rotate_left
                    · simp only [Act.put, List.setIfInBounds_toArray, List.set_cons_zero, List.set_cons_succ, i64_w, i32_w]
                      rfl
                    refine take_ (i := 1) (N := some 57) (v := ?_) (a' := ?_) #[true, true, false, true, false, false, true, false, false, true, true, true, true, false, false, false] rfl rfl (take_ofW HT_.out HW_.out (by kernel_rfl)) (fun _ _ _ h => h) (Or.inl ⟨by rfl, ?_⟩) hHeld ?_ ?_
                    rotate_left
                    · rintro w' ⟨s0, s1, s2, s3, s4⟩
                      go_simp
                      with_reducible rfl
                    rotate_left
                    · simp only [Act.put, List.setIfInBounds_toArray, List.set_cons_zero, List.set_cons_succ, i64_w, i32_w]
                      rfl
                    refine pure_ (i := 2) (N := some 58) (v := ?_) (a' := ?_) #[true, true, true, true, false, false, true, false, false, true, true, true, true, false, false, false] rfl rfl (any_of HT_.out (by kernel_rfl)) (fun _ _ _ h => h) (Or.inl ⟨by rfl, ?_⟩) ?_ ?_
                    rotate_left
                    · intro w'
                      go_simp
                      with_reducible rfl
                    rotate_left
                    · simp only [Act.put, List.setIfInBounds_toArray, List.set_cons_zero, List.set_cons_succ, i64_w, i32_w]
                      rfl
                    refine take_ (i := 4) (N := some 60) (v := ?_) (a' := ?_) #[true, true, true, true, true, false, true, false, false, true, true, true, true, false, false, false] rfl rfl (take_ofW HT_.out HW_.out (by kernel_rfl)) (fun _ _ _ h => h) (Or.inl ⟨by rfl, ?_⟩) hHeld ?_ ?_
                    rotate_left
                    · rintro w' ⟨s0, s1, s2, s3, s4⟩
                      go_simp
                      with_reducible rfl
                    rotate_left
                    · simp only [Act.put, List.setIfInBounds_toArray, List.set_cons_zero, List.set_cons_succ, i64_w, i32_w]
                      rfl
                    refine pure_ (i := 5) (N := some 61) (v := ?_) (a' := ?_) #[true, true, true, true, true, true, true, false, false, true, true, true, true, false, false, false] rfl rfl (any_of HT_.out (by kernel_rfl)) (fun _ _ _ h => h) (Or.inl ⟨by rfl, ?_⟩) ?_ ?_
                    rotate_left
                    · intro w'
                      go_simp
                      with_reducible rfl
                    rotate_left
                    · simp only [Act.put, List.setIfInBounds_toArray, List.set_cons_zero, List.set_cons_succ, i64_w, i32_w]
                      rfl
                    refine one_ (i := 7) (N := some 63) #[true, true, true, true, true, true, true, true, false, true, true, true, true, false, false, false] rfl rfl (one_of HT_.out (by kernel_rfl)) (by decide) (fun K hK => ?_)
                    refine goes_ Try.func46 (by kernel_rfl) rfl #[.string t203, .int .i64 0, .int .i64 4] (by rfl) rfl rfl (by (try simp only [List.map_toArray, List.map_cons, List.map_nil]); first | done | rfl | (simp only [List.length_drop, List.length_take]; rfl)) ?_
                    with_reducible refine (carouselref01_Get.calls kj7 t203 0 4 t211 _ A37.out).mono ?_
                    rintro e w43 ⟨rfl, hb⟩
                    refine ⟨_, rfl, ?_⟩
                    have n0_ := Aside0.mk (blk_below (g := gb197) (o := .cells #[.bool false, .int .u8 0, .int .u32 0, .int .u16 0, .string (⟨#[]⟩ : ByteArray)] 30 (0, 0)) (by (with_reducible repeat (first | refine blk_drewN ?_ _ | refine blk_drew ?_ | refine blk_alloc ?_ _)); exact BK197.out) hb)
                    have n1_ := Aside0.mk (blk_below (g := gb205) (o := .cells #[.int .u8 t198, .int .u8 t199, .int .u8 t200, .int .u8 t201, .int .u8 t202] 87 (0, 0)) (by (with_reducible repeat (first | refine blk_drewN ?_ _ | refine blk_drew ?_ | refine blk_alloc ?_ _)); exact BK205.out) hb)
                    have n2_ := Aside0.mk (below_step (by repeat (first | (with_reducible first | exact HB.out | apply below_alloc | apply pw_below_drewN | apply below_drew1 | refine below_set ?_ GE197.out | refine below_set ?_ GE205.out) | exact HB.out)) hb)
                    clear BK197
                    clear BK205
                    clear HB
                    have BK197 := n0_
                    have BK205 := n1_
                    have HB := n2_
                    clear n0_ n1_ n2_
                    (try clear hb)
                    (try clear hb2)
                    (try clear hk)
                    (try clear hi)
                    refine hK.out _ _ ⟨(blk_cell BK205.out 0).trans rfl, (blk_cell BK205.out 1).trans rfl, (blk_cell BK205.out 2).trans rfl, (blk_cell BK205.out 3).trans rfl, (blk_cell BK205.out 4).trans rfl⟩ (fun hHeld => ?_)
                    clear hK K
                    refine norm_ (a' := ?_) ?_ ?_
                    rotate_left
                    · show Act.put _ (some 63) _ = _
                      simp only [Act.put, List.setIfInBounds_toArray, List.set_cons_zero, List.set_cons_succ, i64_w, i32_w]
                      rfl
                    refine pure_ (i := 8) (N := some 64) (v := ?_) (a' := ?_) #[true, true, true, true, true, true, true, true, true, true, true, true, true, false, false, false] rfl rfl (any_of HT_.out (by kernel_rfl)) (fun _ _ _ h => h) (Or.inl ⟨by rfl, ?_⟩) ?_ ?_
                    rotate_left
                    · intro w'
                      go_simp
                      with_reducible rfl
                    rotate_left
                    · simp only [Act.put, List.setIfInBounds_toArray, List.set_cons_zero, List.set_cons_succ, i64_w, i32_w]
                      rfl
                    refine pure_ (i := 13) (N := some 69) (v := ?_) (a' := ?_) #[true, true, true, true, true, true, true, true, true, true, true, true, true, true, false, false] rfl rfl (any_of HT_.out (by kernel_rfl)) (fun _ _ _ h => h) (Or.inl ⟨by rfl, ?_⟩) ?_ ?_
                    rotate_left
                    · intro w'
                      go_simp
                      with_reducible rfl
                    rotate_left
                    · simp only [Act.put, List.setIfInBounds_toArray, List.set_cons_zero, List.set_cons_succ, i64_w, i32_w]
                      rfl
                    refine one_ (i := 14) (N := none) #[true, true, true, true, true, true, true, true, true, true, true, true, true, true, true, false] rfl rfl (one_of HT_.out (by kernel_rfl)) (by decide) (fun K hK => ?_)
                    have hs44 : w43.cell? ⟨gb197, 0, none⟩ = some (.bool false) := (blk_cell BK197.out 0).trans rfl
                    have hfs44 := blk_frozen BK197.out 0
                    have hns44_1 := NB205_197.out
                    have hms44_1 := NB197_205.out
                    have hs45 : w43.cell? ⟨gb197, 1, none⟩ = some (.int .u8 0) := (blk_cell BK197.out 1).trans rfl
                    have hfs45 := blk_frozen BK197.out 1
                    have hns45_1 := NB205_197.out
                    have hms45_1 := NB197_205.out
                    have hs46 : w43.cell? ⟨gb197, 2, none⟩ = some (.int .u32 0) := (blk_cell BK197.out 2).trans rfl
                    have hfs46 := blk_frozen BK197.out 2
                    have hns46_1 := NB205_197.out
                    have hms46_1 := NB197_205.out
                    have hs47 : w43.cell? ⟨gb197, 3, none⟩ = some (.int .u16 0) := (blk_cell BK197.out 3).trans rfl
                    have hfs47 := blk_frozen BK197.out 3
                    have hns47_1 := NB205_197.out
                    have hms47_1 := NB197_205.out
                    have hs48 : w43.cell? ⟨gb197, 4, none⟩ = some (.string (⟨#[]⟩ : ByteArray)) := (blk_cell BK197.out 4).trans rfl
                    have hfs48 := blk_frozen BK197.out 4
                    have hns48_1 := NB205_197.out
                    have hms48_1 := NB197_205.out
                    refine skip_ (w1 := ?_) (by rfl) rfl ?_ ?_
                    rotate_left
                    · go_simp
                      rfl
                    refine hK.out _ _ ⟨((cell_far (p := ⟨gb197, _, none⟩) NB205_197.out _).trans (((cell_far (p := ⟨gb197, _, none⟩) NB205_197.out _).trans (((cell_far (p := ⟨gb197, _, none⟩) NB205_197.out _).trans (((cell_far (p := ⟨gb197, _, none⟩) NB205_197.out _).trans (((cell_far (p := ⟨gb197, _, none⟩) NB205_197.out _).trans (hHeld.1)))))))))), ((cell_far (p := ⟨gb197, _, none⟩) NB205_197.out _).trans (((cell_far (p := ⟨gb197, _, none⟩) NB205_197.out _).trans (((cell_far (p := ⟨gb197, _, none⟩) NB205_197.out _).trans (((cell_far (p := ⟨gb197, _, none⟩) NB205_197.out _).trans (((cell_far (p := ⟨gb197, _, none⟩) NB205_197.out _).trans (hHeld.2.1)))))))))), ((cell_far (p := ⟨gb197, _, none⟩) NB205_197.out _).trans (((cell_far (p := ⟨gb197, _, none⟩) NB205_197.out _).trans (((cell_far (p := ⟨gb197, _, none⟩) NB205_197.out _).trans (((cell_far (p := ⟨gb197, _, none⟩) NB205_197.out _).trans (((cell_far (p := ⟨gb197, _, none⟩) NB205_197.out _).trans (hHeld.2.2.1)))))))))), ((cell_far (p := ⟨gb197, _, none⟩) NB205_197.out _).trans (((cell_far (p := ⟨gb197, _, none⟩) NB205_197.out _).trans (((cell_far (p := ⟨gb197, _, none⟩) NB205_197.out _).trans (((cell_far (p := ⟨gb197, _, none⟩) NB205_197.out _).trans (((cell_far (p := ⟨gb197, _, none⟩) NB205_197.out _).trans (hHeld.2.2.2.1)))))))))), ((cell_far (p := ⟨gb197, _, none⟩) NB205_197.out _).trans (((cell_far (p := ⟨gb197, _, none⟩) NB205_197.out _).trans (((cell_far (p := ⟨gb197, _, none⟩) NB205_197.out _).trans (((cell_far (p := ⟨gb197, _, none⟩) NB205_197.out _).trans (((cell_far (p := ⟨gb197, _, none⟩) NB205_197.out _).trans (hHeld.2.2.2.2))))))))))⟩ (fun hHeld => ?_)
                    clear hK K
                    refine pure_ (i := 15) (N := some 5) (v := ?_) (a' := ?_) #[true, true, true, true, true, true, true, true, true, true, true, true, true, true, true, true] rfl rfl (any_of HT_.out (by kernel_rfl)) (fun _ _ _ h => h) (Or.inl ⟨by rfl, ?_⟩) ?_ ?_
                    rotate_left
                    · intro w'
                      go_simp
                      with_reducible rfl
                    rotate_left
                    · simp only [Act.put, List.setIfInBounds_toArray, List.set_cons_zero, List.set_cons_succ, i64_w, i32_w]
                      rfl
                    refine done_ (done_of HT_.out (by kernel_rfl)) ?_
                    try go_wp2
                    refine bodyPost_ret (results_ct rfl _ _ gb197 30 #[.bool (decide (t201 ≥ 128)), .int .u8 (Int.tmod t201 8), .int .u32 ((t211) % 4294967296), .int .u16 (IntKind.u16.wrap (t207)), .string (t203.extract 6 54)] (0, 0) _ rfl (by (with_reducible repeat (first | refine blk_drewN ?_ _ | refine blk_drew ?_ | refine blk_alloc ?_ _)); refine blk_put (cs := #[.bool (decide (t201 ≥ 128)), .int .u8 (Int.tmod t201 8), .int .u32 ((t211) % 4294967296), .int .u16 (IntKind.u16.wrap (t207)), .string (⟨#[]⟩ : ByteArray)]) ?_ 4 _ rfl; (with_reducible repeat (first | refine blk_drewN ?_ _ | refine blk_drew ?_ | refine blk_alloc ?_ _)); refine blk_put (cs := #[.bool (decide (t201 ≥ 128)), .int .u8 (Int.tmod t201 8), .int .u32 ((t211) % 4294967296), .int .u16 0, .string (⟨#[]⟩ : ByteArray)]) ?_ 3 _ rfl; (with_reducible repeat (first | refine blk_drewN ?_ _ | refine blk_drew ?_ | refine blk_alloc ?_ _)); refine blk_put (cs := #[.bool (decide (t201 ≥ 128)), .int .u8 (Int.tmod t201 8), .int .u32 0, .int .u16 0, .string (⟨#[]⟩ : ByteArray)]) ?_ 2 _ rfl; (with_reducible repeat (first | refine blk_drewN ?_ _ | refine blk_drew ?_ | refine blk_alloc ?_ _)); refine blk_put (cs := #[.bool (decide (t201 ≥ 128)), .int .u8 0, .int .u32 0, .int .u16 0, .string (⟨#[]⟩ : ByteArray)]) ?_ 1 _ rfl; (with_reducible repeat (first | refine blk_drewN ?_ _ | refine blk_drew ?_ | refine blk_alloc ?_ _)); refine blk_put (cs := #[.bool false, .int .u8 0, .int .u32 0, .int .u16 0, .string (⟨#[]⟩ : ByteArray)]) ?_ 0 _ rfl; (with_reducible repeat (first | refine blk_drewN ?_ _ | refine blk_drew ?_ | refine blk_alloc ?_ _)); exact BK197.out) Try.underlying30 rfl (by kernel_rfl)) rfl ?_
                    exact ⟨by first | rfl | (simp [errW_none, errW_some] <;> rfl) | (simp [*, errW_none, errW_some] <;> rfl), by repeat (first | (with_reducible first | exact HB.out | apply below_alloc | apply pw_below_drewN | apply below_drew1 | refine below_set ?_ GE197.out | refine below_set ?_ GE205.out) | exact HB.out)⟩
                  · rw [if_neg c39] at H
                    exact absurd H (by simp)
                · rw [if_neg c38] at H
                  exact absurd H (by simp)
    · rw [if_neg c6] at H
      have c6b0 : (t206 == 0) = false := beq_eq_false_iff_ne.mpr c6
      have c6b1 : (t206 != 0) = true := bne_iff_ne.mpr c6
      simp only [Option.some.injEq, Prod.mk.injEq] at H
      obtain ⟨rfl, rfl, rfl, rfl, rfl, rfl⟩ := H
      go_enter Try.func11, Try.ntmps11
      go_wp2_with (first | ((with_reducible refine gate_dst (N := 4) rfl ?_); (try (refine gate_guard (by rfl) ?_; dsimp only)); refine box_event ?hg (N := 4) ?hd (cs := #[.bool false, .int .u8 0, .int .u32 0, .int .u16 0, .string (⟨#[]⟩ : ByteArray)]) (t := 30) ?hr ?_; (case hd => rfl); (case hg => rfl); (case hr => first | (go_simp; done) | (go_simp; rfl)); intro gb197 hg w49 hbox hb; have n0_ := Aside0.mk (below_step (by repeat (first | (with_reducible first | exact HB.out | apply below_alloc | apply pw_below_drewN | apply below_drew1) | exact HB.out)) hb); have n1_ := Aside0.mk (hbox); have n2_ := Aside0.mk ((by rw [hg]; exact (below_size (by repeat (first | (with_reducible first | exact HB.out | apply below_alloc | apply pw_below_drewN | apply below_drew1) | exact HB.out))) : w.heap.size ≤ gb197)); have n3_ := Aside0.mk ((by rw [hg]; exact (below_size (by repeat (first | (with_reducible first | exact HB.out | apply below_alloc | apply pw_below_drewN | apply below_drew1) | exact HB.out))) : w.heap.size ≤ gb197)); clear HB; have HB := n0_; have BK197 := n1_; have GW197 := n2_; have GE197 := n3_; clear n0_ n1_ n2_ n3_; clear hb hbox hg) | ((with_reducible refine gate_callee (f := 44) rfl ?_); refine goesL_ (some 13) rfl rfl Try.func44 (by kernel_rfl) rfl #[.string a0] rfl (by (try simp only [List.map_toArray, List.map_cons, List.map_nil]); first | done | rfl | (simp only [List.length_drop, List.length_take]; rfl)) ?_; (with_reducible refine (carouselref04_Open.calls k a0 t198 t199 t200 t201 t202 t203 t204 _ A3.out).mono ?_); rintro e w50 ⟨rfl, hb⟩; refine ⟨_, rfl, ?_⟩; have n0_ := Aside0.mk (blk_below (g := gb197) (o := .cells #[.bool false, .int .u8 0, .int .u32 0, .int .u16 0, .string (⟨#[]⟩ : ByteArray)] 30 (0, 0)) (by (with_reducible repeat (first | refine blk_drewN ?_ _ | refine blk_drew ?_ | refine blk_alloc ?_ _)); exact BK197.out) hb); have n1_ := Aside0.mk (below_step (by repeat (first | (with_reducible first | exact HB.out | apply below_alloc | apply pw_below_drewN | apply below_drew1 | refine below_set ?_ GE197.out) | exact HB.out)) hb); clear BK197; clear HB; have BK197 := n0_; have HB := n1_; clear n0_ n1_; (try clear hb); (try clear hb2); (try clear hk); (try clear hi)) | ((with_reducible refine gate_dst (N := 6) rfl ?_); (try (refine gate_guard (by rfl) ?_; dsimp only)); refine box_event ?hg (N := 6) ?hd (cs := #[.int .u8 0, .int .u8 0, .int .u8 0, .int .u8 0, .int .u8 0]) (t := 87) ?hr ?_; (case hd => rfl); (case hg => rfl); (case hr => first | (go_simp; done) | (go_simp; rfl)); intro gb205 hg w51 hbox hb; have n0_ := Aside0.mk (blk_below (g := gb197) (o := .cells #[.bool false, .int .u8 0, .int .u32 0, .int .u16 0, .string (⟨#[]⟩ : ByteArray)] 30 (0, 0)) (by (with_reducible repeat (first | refine blk_drewN ?_ _ | refine blk_drew ?_ | refine blk_alloc ?_ _)); exact BK197.out) hb); have n1_ := Aside0.mk (below_step (by repeat (first | (with_reducible first | exact HB.out | apply below_alloc | apply pw_below_drewN | apply below_drew1 | refine below_set ?_ GE197.out) | exact HB.out)) hb); have n2_ := Aside0.mk (hbox); have n3_ := Aside0.mk ((by rw [hg]; exact (below_size (by repeat (first | (with_reducible first | exact HB.out | apply below_alloc | apply pw_below_drewN | apply below_drew1 | refine below_set ?_ GE197.out) | exact HB.out))) : w.heap.size ≤ gb205)); have n4_ := Aside0.mk ((by rw [hg]; exact (below_size (by repeat (first | (with_reducible first | exact HB.out | apply below_alloc | apply pw_below_drewN | apply below_drew1 | refine below_set ?_ GE197.out) | exact HB.out))) : w.heap.size ≤ gb205)); have n5_ := Aside0.mk ((by rw [hg]; exact Nat.ne_of_lt (blk_lt (g := gb197) (o := .cells #[.bool false, .int .u8 0, .int .u32 0, .int .u16 0, .string (⟨#[]⟩ : ByteArray)] 30 (0, 0)) (by (with_reducible repeat (first | refine blk_drewN ?_ _ | refine blk_drew ?_ | refine blk_alloc ?_ _)); exact BK197.out)) : gb197 ≠ gb205)); have n6_ := Aside0.mk ((by rw [hg]; exact Nat.ne_of_gt (blk_lt (g := gb197) (o := .cells #[.bool false, .int .u8 0, .int .u32 0, .int .u16 0, .string (⟨#[]⟩ : ByteArray)] 30 (0, 0)) (by (with_reducible repeat (first | refine blk_drewN ?_ _ | refine blk_drew ?_ | refine blk_alloc ?_ _)); exact BK197.out)) : gb205 ≠ gb197)); clear BK197; clear HB; have BK197 := n0_; have HB := n1_; have BK205 := n2_; have GW205 := n3_; have GE205 := n4_; have NB197_205 := n5_; have NB205_197 := n6_; clear n0_ n1_ n2_ n3_ n4_ n5_ n6_; clear hb hbox hg; have hnb52 := NB205_197.out; have hnc52 := NB197_205.out; have hcz53_0 : w51.cell? ⟨gb205, 0, none⟩ = some (.int .u8 0) := (blk_cell BK205.out 0).trans rfl; have hcz53_1 : w51.cell? ⟨gb205, 1, none⟩ = some (.int .u8 0) := (blk_cell BK205.out 1).trans rfl; have hcz53_2 : w51.cell? ⟨gb205, 2, none⟩ = some (.int .u8 0) := (blk_cell BK205.out 2).trans rfl; have hcz53_3 : w51.cell? ⟨gb205, 3, none⟩ = some (.int .u8 0) := (blk_cell BK205.out 3).trans rfl; have hcz53_4 : w51.cell? ⟨gb205, 4, none⟩ = some (.int .u8 0) := (blk_cell BK205.out 4).trans rfl; have hfz53_0 := blk_frozen BK205.out 0; have hfz53_1 := blk_frozen BK205.out 1; have hfz53_2 := blk_frozen BK205.out 2; have hfz53_3 := blk_frozen BK205.out 3; have hfz53_4 := blk_frozen BK205.out 4) | ((with_reducible refine gate_callee (f := 45) rfl ?_); refine goesL_ (some 23) rfl rfl Try.func45 (by kernel_rfl) rfl #[.agg #[.int .u8 t198, .int .u8 t199, .int .u8 t200, .int .u8 t201, .int .u8 t202], .int .u8 a1, .int .u8 0, .int .u8 1, .int .u8 70] rfl (by (try simp only [List.map_toArray, List.map_cons, List.map_nil]); first | done | rfl | (simp only [List.length_drop, List.length_take]; rfl)) ?_; (with_reducible refine (carouselref04_Is.calls t198 t199 t200 t201 t202 a1 0 1 70 t206 _ A5.out).mono ?_); rintro e w54 ⟨rfl, hb⟩; refine ⟨_, rfl, ?_⟩; have n0_ := Aside0.mk (blk_below (g := gb197) (o := .cells #[.bool false, .int .u8 0, .int .u32 0, .int .u16 0, .string (⟨#[]⟩ : ByteArray)] 30 (0, 0)) (by (with_reducible repeat (first | refine blk_drewN ?_ _ | refine blk_drew ?_ | refine blk_alloc ?_ _)); refine blk_far ?_ NB197_205.out _; (with_reducible repeat (first | refine blk_drewN ?_ _ | refine blk_drew ?_ | refine blk_alloc ?_ _)); refine blk_far ?_ NB197_205.out _; (with_reducible repeat (first | refine blk_drewN ?_ _ | refine blk_drew ?_ | refine blk_alloc ?_ _)); refine blk_far ?_ NB197_205.out _; (with_reducible repeat (first | refine blk_drewN ?_ _ | refine blk_drew ?_ | refine blk_alloc ?_ _)); refine blk_far ?_ NB197_205.out _; (with_reducible repeat (first | refine blk_drewN ?_ _ | refine blk_drew ?_ | refine blk_alloc ?_ _)); refine blk_far ?_ NB197_205.out _; (with_reducible repeat (first | refine blk_drewN ?_ _ | refine blk_drew ?_ | refine blk_alloc ?_ _)); exact BK197.out) hb); have n1_ := Aside0.mk (blk_below (g := gb205) (o := .cells #[.int .u8 t198, .int .u8 t199, .int .u8 t200, .int .u8 t201, .int .u8 t202] 87 (0, 0)) (by (with_reducible repeat (first | refine blk_drewN ?_ _ | refine blk_drew ?_ | refine blk_alloc ?_ _)); refine blk_put (cs := #[.int .u8 t198, .int .u8 t199, .int .u8 t200, .int .u8 t201, .int .u8 0]) ?_ 4 _ rfl; (with_reducible repeat (first | refine blk_drewN ?_ _ | refine blk_drew ?_ | refine blk_alloc ?_ _)); refine blk_put (cs := #[.int .u8 t198, .int .u8 t199, .int .u8 t200, .int .u8 0, .int .u8 0]) ?_ 3 _ rfl; (with_reducible repeat (first | refine blk_drewN ?_ _ | refine blk_drew ?_ | refine blk_alloc ?_ _)); refine blk_put (cs := #[.int .u8 t198, .int .u8 t199, .int .u8 0, .int .u8 0, .int .u8 0]) ?_ 2 _ rfl; (with_reducible repeat (first | refine blk_drewN ?_ _ | refine blk_drew ?_ | refine blk_alloc ?_ _)); refine blk_put (cs := #[.int .u8 t198, .int .u8 0, .int .u8 0, .int .u8 0, .int .u8 0]) ?_ 1 _ rfl; (with_reducible repeat (first | refine blk_drewN ?_ _ | refine blk_drew ?_ | refine blk_alloc ?_ _)); refine blk_put (cs := #[.int .u8 0, .int .u8 0, .int .u8 0, .int .u8 0, .int .u8 0]) ?_ 0 _ rfl; (with_reducible repeat (first | refine blk_drewN ?_ _ | refine blk_drew ?_ | refine blk_alloc ?_ _)); exact BK205.out) hb); have n2_ := Aside0.mk (below_step (by repeat (first | (with_reducible first | exact HB.out | apply below_alloc | apply pw_below_drewN | apply below_drew1 | refine below_set ?_ GE197.out | refine below_set ?_ GE205.out) | exact HB.out)) hb); clear BK197; clear BK205; clear HB; have BK197 := n0_; have BK205 := n1_; have HB := n2_; clear n0_ n1_ n2_; (try clear hb); (try clear hb2); (try clear hk); (try clear hi); have hcz55_0 : w54.cell? ⟨gb197, 0, none⟩ = some (.bool false) := (blk_cell BK197.out 0).trans rfl; have hcz55_1 : w54.cell? ⟨gb197, 1, none⟩ = some (.int .u8 0) := (blk_cell BK197.out 1).trans rfl; have hcz55_2 : w54.cell? ⟨gb197, 2, none⟩ = some (.int .u32 0) := (blk_cell BK197.out 2).trans rfl; have hcz55_3 : w54.cell? ⟨gb197, 3, none⟩ = some (.int .u16 0) := (blk_cell BK197.out 3).trans rfl; have hcz55_4 : w54.cell? ⟨gb197, 4, none⟩ = some (.string (⟨#[]⟩ : ByteArray)) := (blk_cell BK197.out 4).trans rfl; have hfz55_0 := blk_frozen BK197.out 0; have hfz55_1 := blk_frozen BK197.out 1; have hfz55_2 := blk_frozen BK197.out 2; have hfz55_3 := blk_frozen BK197.out 3; have hfz55_4 := blk_frozen BK197.out 4))
      refine bodyPost_ret (results_ct rfl _ _ gb197 30 #[.bool false, .int .u8 0, .int .u32 0, .int .u16 0, .string (⟨#[]⟩ : ByteArray)] (0, 0) _ rfl (by (with_reducible repeat (first | refine blk_drewN ?_ _ | refine blk_drew ?_ | refine blk_alloc ?_ _)); refine blk_put (cs := #[.bool false, .int .u8 0, .int .u32 0, .int .u16 0, .string (⟨#[]⟩ : ByteArray)]) ?_ 4 _ rfl; (with_reducible repeat (first | refine blk_drewN ?_ _ | refine blk_drew ?_ | refine blk_alloc ?_ _)); refine blk_put (cs := #[.bool false, .int .u8 0, .int .u32 0, .int .u16 0, .string (⟨#[]⟩ : ByteArray)]) ?_ 3 _ rfl; (with_reducible repeat (first | refine blk_drewN ?_ _ | refine blk_drew ?_ | refine blk_alloc ?_ _)); refine blk_put (cs := #[.bool false, .int .u8 0, .int .u32 0, .int .u16 0, .string (⟨#[]⟩ : ByteArray)]) ?_ 2 _ rfl; (with_reducible repeat (first | refine blk_drewN ?_ _ | refine blk_drew ?_ | refine blk_alloc ?_ _)); refine blk_put (cs := #[.bool false, .int .u8 0, .int .u32 0, .int .u16 0, .string (⟨#[]⟩ : ByteArray)]) ?_ 1 _ rfl; (with_reducible repeat (first | refine blk_drewN ?_ _ | refine blk_drew ?_ | refine blk_alloc ?_ _)); refine blk_put (cs := #[.bool false, .int .u8 0, .int .u32 0, .int .u16 0, .string (⟨#[]⟩ : ByteArray)]) ?_ 0 _ rfl; (with_reducible repeat (first | refine blk_drewN ?_ _ | refine blk_drew ?_ | refine blk_alloc ?_ _)); exact BK197.out) Try.underlying30 rfl (by kernel_rfl)) rfl ?_
      exact ⟨by first | rfl | (simp [errW_none, errW_some] <;> rfl) | (simp [*, errW_none, errW_some] <;> rfl), by repeat (first | (with_reducible first | exact HB.out | apply below_alloc | apply pw_below_drewN | apply below_drew1 | refine below_set ?_ GE197.out | refine below_set ?_ GE205.out) | exact HB.out)⟩
  · rw [if_neg c4] at H
    have c4b0 : (t204 == 0) = false := beq_eq_false_iff_ne.mpr c4
    have c4b1 : (t204 != 0) = true := bne_iff_ne.mpr c4
    simp only [Option.some.injEq, Prod.mk.injEq] at H
    obtain ⟨rfl, rfl, rfl, rfl, rfl, rfl⟩ := H
    go_enter Try.func11, Try.ntmps11
    go_wp2_with (first | ((with_reducible refine gate_dst (N := 4) rfl ?_); (try (refine gate_guard (by rfl) ?_; dsimp only)); refine box_event ?hg (N := 4) ?hd (cs := #[.bool false, .int .u8 0, .int .u32 0, .int .u16 0, .string (⟨#[]⟩ : ByteArray)]) (t := 30) ?hr ?_; (case hd => rfl); (case hg => rfl); (case hr => first | (go_simp; done) | (go_simp; rfl)); intro gb197 hg w56 hbox hb; have n0_ := Aside0.mk (below_step (by repeat (first | (with_reducible first | exact HB.out | apply below_alloc | apply pw_below_drewN | apply below_drew1) | exact HB.out)) hb); have n1_ := Aside0.mk (hbox); have n2_ := Aside0.mk ((by rw [hg]; exact (below_size (by repeat (first | (with_reducible first | exact HB.out | apply below_alloc | apply pw_below_drewN | apply below_drew1) | exact HB.out))) : w.heap.size ≤ gb197)); have n3_ := Aside0.mk ((by rw [hg]; exact (below_size (by repeat (first | (with_reducible first | exact HB.out | apply below_alloc | apply pw_below_drewN | apply below_drew1) | exact HB.out))) : w.heap.size ≤ gb197)); clear HB; have HB := n0_; have BK197 := n1_; have GW197 := n2_; have GE197 := n3_; clear n0_ n1_ n2_ n3_; clear hb hbox hg) | ((with_reducible refine gate_callee (f := 44) rfl ?_); refine goesL_ (some 13) rfl rfl Try.func44 (by kernel_rfl) rfl #[.string a0] rfl (by (try simp only [List.map_toArray, List.map_cons, List.map_nil]); first | done | rfl | (simp only [List.length_drop, List.length_take]; rfl)) ?_; (with_reducible refine (carouselref04_Open.calls k a0 t198 t199 t200 t201 t202 t203 t204 _ A3.out).mono ?_); rintro e w57 ⟨rfl, hb⟩; refine ⟨_, rfl, ?_⟩; have n0_ := Aside0.mk (blk_below (g := gb197) (o := .cells #[.bool false, .int .u8 0, .int .u32 0, .int .u16 0, .string (⟨#[]⟩ : ByteArray)] 30 (0, 0)) (by (with_reducible repeat (first | refine blk_drewN ?_ _ | refine blk_drew ?_ | refine blk_alloc ?_ _)); exact BK197.out) hb); have n1_ := Aside0.mk (below_step (by repeat (first | (with_reducible first | exact HB.out | apply below_alloc | apply pw_below_drewN | apply below_drew1 | refine below_set ?_ GE197.out) | exact HB.out)) hb); clear BK197; clear HB; have BK197 := n0_; have HB := n1_; clear n0_ n1_; (try clear hb); (try clear hb2); (try clear hk); (try clear hi)) | ((with_reducible refine gate_dst (N := 6) rfl ?_); (try (refine gate_guard (by rfl) ?_; dsimp only)); refine box_event ?hg (N := 6) ?hd (cs := #[.int .u8 0, .int .u8 0, .int .u8 0, .int .u8 0, .int .u8 0]) (t := 87) ?hr ?_; (case hd => rfl); (case hg => rfl); (case hr => first | (go_simp; done) | (go_simp; rfl)); intro gb205 hg w58 hbox hb; have n0_ := Aside0.mk (blk_below (g := gb197) (o := .cells #[.bool false, .int .u8 0, .int .u32 0, .int .u16 0, .string (⟨#[]⟩ : ByteArray)] 30 (0, 0)) (by (with_reducible repeat (first | refine blk_drewN ?_ _ | refine blk_drew ?_ | refine blk_alloc ?_ _)); exact BK197.out) hb); have n1_ := Aside0.mk (below_step (by repeat (first | (with_reducible first | exact HB.out | apply below_alloc | apply pw_below_drewN | apply below_drew1 | refine below_set ?_ GE197.out) | exact HB.out)) hb); have n2_ := Aside0.mk (hbox); have n3_ := Aside0.mk ((by rw [hg]; exact (below_size (by repeat (first | (with_reducible first | exact HB.out | apply below_alloc | apply pw_below_drewN | apply below_drew1 | refine below_set ?_ GE197.out) | exact HB.out))) : w.heap.size ≤ gb205)); have n4_ := Aside0.mk ((by rw [hg]; exact (below_size (by repeat (first | (with_reducible first | exact HB.out | apply below_alloc | apply pw_below_drewN | apply below_drew1 | refine below_set ?_ GE197.out) | exact HB.out))) : w.heap.size ≤ gb205)); have n5_ := Aside0.mk ((by rw [hg]; exact Nat.ne_of_lt (blk_lt (g := gb197) (o := .cells #[.bool false, .int .u8 0, .int .u32 0, .int .u16 0, .string (⟨#[]⟩ : ByteArray)] 30 (0, 0)) (by (with_reducible repeat (first | refine blk_drewN ?_ _ | refine blk_drew ?_ | refine blk_alloc ?_ _)); exact BK197.out)) : gb197 ≠ gb205)); have n6_ := Aside0.mk ((by rw [hg]; exact Nat.ne_of_gt (blk_lt (g := gb197) (o := .cells #[.bool false, .int .u8 0, .int .u32 0, .int .u16 0, .string (⟨#[]⟩ : ByteArray)] 30 (0, 0)) (by (with_reducible repeat (first | refine blk_drewN ?_ _ | refine blk_drew ?_ | refine blk_alloc ?_ _)); exact BK197.out)) : gb205 ≠ gb197)); clear BK197; clear HB; have BK197 := n0_; have HB := n1_; have BK205 := n2_; have GW205 := n3_; have GE205 := n4_; have NB197_205 := n5_; have NB205_197 := n6_; clear n0_ n1_ n2_ n3_ n4_ n5_ n6_; clear hb hbox hg; have hnb59 := NB205_197.out; have hnc59 := NB197_205.out; have hcz60_0 : w58.cell? ⟨gb205, 0, none⟩ = some (.int .u8 0) := (blk_cell BK205.out 0).trans rfl; have hcz60_1 : w58.cell? ⟨gb205, 1, none⟩ = some (.int .u8 0) := (blk_cell BK205.out 1).trans rfl; have hcz60_2 : w58.cell? ⟨gb205, 2, none⟩ = some (.int .u8 0) := (blk_cell BK205.out 2).trans rfl; have hcz60_3 : w58.cell? ⟨gb205, 3, none⟩ = some (.int .u8 0) := (blk_cell BK205.out 3).trans rfl; have hcz60_4 : w58.cell? ⟨gb205, 4, none⟩ = some (.int .u8 0) := (blk_cell BK205.out 4).trans rfl; have hfz60_0 := blk_frozen BK205.out 0; have hfz60_1 := blk_frozen BK205.out 1; have hfz60_2 := blk_frozen BK205.out 2; have hfz60_3 := blk_frozen BK205.out 3; have hfz60_4 := blk_frozen BK205.out 4; have hcz61_0 : w58.cell? ⟨gb197, 0, none⟩ = some (.bool false) := (blk_cell BK197.out 0).trans rfl; have hcz61_1 : w58.cell? ⟨gb197, 1, none⟩ = some (.int .u8 0) := (blk_cell BK197.out 1).trans rfl; have hcz61_2 : w58.cell? ⟨gb197, 2, none⟩ = some (.int .u32 0) := (blk_cell BK197.out 2).trans rfl; have hcz61_3 : w58.cell? ⟨gb197, 3, none⟩ = some (.int .u16 0) := (blk_cell BK197.out 3).trans rfl; have hcz61_4 : w58.cell? ⟨gb197, 4, none⟩ = some (.string (⟨#[]⟩ : ByteArray)) := (blk_cell BK197.out 4).trans rfl; have hfz61_0 := blk_frozen BK197.out 0; have hfz61_1 := blk_frozen BK197.out 1; have hfz61_2 := blk_frozen BK197.out 2; have hfz61_3 := blk_frozen BK197.out 3; have hfz61_4 := blk_frozen BK197.out 4))
    refine bodyPost_ret (results_ct rfl _ _ gb197 30 #[.bool false, .int .u8 0, .int .u32 0, .int .u16 0, .string (⟨#[]⟩ : ByteArray)] (0, 0) _ rfl (by (with_reducible repeat (first | refine blk_drewN ?_ _ | refine blk_drew ?_ | refine blk_alloc ?_ _)); refine blk_put (cs := #[.bool false, .int .u8 0, .int .u32 0, .int .u16 0, .string (⟨#[]⟩ : ByteArray)]) ?_ 4 _ rfl; (with_reducible repeat (first | refine blk_drewN ?_ _ | refine blk_drew ?_ | refine blk_alloc ?_ _)); refine blk_put (cs := #[.bool false, .int .u8 0, .int .u32 0, .int .u16 0, .string (⟨#[]⟩ : ByteArray)]) ?_ 3 _ rfl; (with_reducible repeat (first | refine blk_drewN ?_ _ | refine blk_drew ?_ | refine blk_alloc ?_ _)); refine blk_put (cs := #[.bool false, .int .u8 0, .int .u32 0, .int .u16 0, .string (⟨#[]⟩ : ByteArray)]) ?_ 2 _ rfl; (with_reducible repeat (first | refine blk_drewN ?_ _ | refine blk_drew ?_ | refine blk_alloc ?_ _)); refine blk_put (cs := #[.bool false, .int .u8 0, .int .u32 0, .int .u16 0, .string (⟨#[]⟩ : ByteArray)]) ?_ 1 _ rfl; (with_reducible repeat (first | refine blk_drewN ?_ _ | refine blk_drew ?_ | refine blk_alloc ?_ _)); refine blk_put (cs := #[.bool false, .int .u8 0, .int .u32 0, .int .u16 0, .string (⟨#[]⟩ : ByteArray)]) ?_ 0 _ rfl; (with_reducible repeat (first | refine blk_drewN ?_ _ | refine blk_drew ?_ | refine blk_alloc ?_ _)); refine blk_far ?_ NB197_205.out _; (with_reducible repeat (first | refine blk_drewN ?_ _ | refine blk_drew ?_ | refine blk_alloc ?_ _)); refine blk_far ?_ NB197_205.out _; (with_reducible repeat (first | refine blk_drewN ?_ _ | refine blk_drew ?_ | refine blk_alloc ?_ _)); refine blk_far ?_ NB197_205.out _; (with_reducible repeat (first | refine blk_drewN ?_ _ | refine blk_drew ?_ | refine blk_alloc ?_ _)); refine blk_far ?_ NB197_205.out _; (with_reducible repeat (first | refine blk_drewN ?_ _ | refine blk_drew ?_ | refine blk_alloc ?_ _)); refine blk_far ?_ NB197_205.out _; (with_reducible repeat (first | refine blk_drewN ?_ _ | refine blk_drew ?_ | refine blk_alloc ?_ _)); exact BK197.out) Try.underlying30 rfl (by kernel_rfl)) rfl ?_
    exact ⟨by first | rfl | (simp [errW_none, errW_some] <;> rfl) | (simp [*, errW_none, errW_some] <;> rfl), by repeat (first | (with_reducible first | exact HB.out | apply below_alloc | apply pw_below_drewN | apply below_drew1 | refine below_set ?_ GE197.out | refine below_set ?_ GE205.out) | exact HB.out)⟩

end Go.Proofs.Ytmdaaphjndjakag.PAll
