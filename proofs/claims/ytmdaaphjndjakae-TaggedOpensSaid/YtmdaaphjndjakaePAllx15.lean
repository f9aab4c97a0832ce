-- Written by a program of this work, after the translation.
import Derived.Test.YtmdaaphjndjakaePAllx0
import Derived.Test.YtmdaaphjndjakaePAllx14
namespace Go.Proofs.Ytmdaaphjndjakae.PAll
open Go.RowKit Go.Proofs.YtmdaaphjndjakaeW.PrintWords Go.Proofs.YtmdaaphjndjakaeW.PrintLast Go.Proofs.YtmdaaphjndjakaeW.PrintMore
attribute [local go_sem] max2_int min2_int max_two min_two max_three min_three max_four min_four   -- for this text's walks alone
set_option linter.unusedVariables false
set_option linter.unusedSimpArgs false

/-! ### carouselref03_Open: function 11 -/
mutual
def carouselref03_Open.j0 : Nat → ByteArray → Bool → Option (Int × Int × Int × Bool × Int × Int × ByteArray × Int)
  | 0, _, _ => none
  | k + 1, x0, x21 => if x21 = true then (some (0, 0, 0, false, 0, 0, (⟨#[]⟩ : ByteArray), 5)) else ((carouselref01_Get.f k x0 14 2).bind fun t191 => ((carouselref01_Get.f k x0 0 6).bind fun t192 => ((carouselref01_Get.f k x0 6 6).bind fun t193 => ((carouselref01_Get.f k x0 16 2).bind fun t194 => (if 18 ≤ (x0.size : Int) then ((carouselref02_Group.f t193).bind fun t196 => (if t196 = true then (some (0, 0, 0, false, 0, 0, (⟨#[]⟩ : ByteArray), 3)) else (if (IntKind.u16.wrap (Int.tmod t191 4096)) = 0 then (carouselref03_Open.j1 k true t192 t193 ((IntKind.u64.wrap (Int.tdiv t191 8192)) % 256) ((Int.tmod (IntKind.u64.wrap (Int.tdiv t191 4096)) 2) == 1) (IntKind.u16.wrap (Int.tmod t191 4096)) (IntKind.u16.wrap (t194)) (x0.extract 18 x0.size)) else (carouselref03_Open.j1 k ((IntKind.u16.wrap (Int.tmod t191 4096)) == 4095) t192 t193 ((IntKind.u64.wrap (Int.tdiv t191 8192)) % 256) ((Int.tmod (IntKind.u64.wrap (Int.tdiv t191 4096)) 2) == 1) (IntKind.u16.wrap (Int.tmod t191 4096)) (IntKind.u16.wrap (t194)) (x0.extract 18 x0.size))))) else (none))))))
def carouselref03_Open.j1 : Nat → Bool → Int → Int → Int → Bool → Int → Int → ByteArray → Option (Int × Int × Int × Bool × Int × Int × ByteArray × Int)
  | 0, _, _, _, _, _, _, _, _ => none
  | k + 1, x56, x196000, x196001, x196002, x196003, x196004, x196005, x196006 => if x56 = true then (some (0, 0, 0, false, 0, 0, (⟨#[]⟩ : ByteArray), 4)) else (if x196005 < 1536 then (some (0, 0, 0, false, 0, 0, (⟨#[]⟩ : ByteArray), 6)) else (some (x196000, x196001, x196002, x196003, x196004, x196005, x196006, 0)))
end
def carouselref03_Open.f (k : Nat) (a0 : ByteArray) : Option (Int × Int × Int × Bool × Int × Int × ByteArray × Int) := if (a0.size : Int) < 18 then (some (0, 0, 0, false, 0, 0, (⟨#[]⟩ : ByteArray), 1)) else (if (a0.size : Int) > 1600 then (some (0, 0, 0, false, 0, 0, (⟨#[]⟩ : ByteArray), 2)) else (if 12 < (a0.size : Int) then (if (bt a0 12) = 129 then (if 13 < (a0.size : Int) then (carouselref03_Open.j0 k a0 ((bt a0 13) != 0)) else (none)) else (carouselref03_Open.j0 k a0 true)) else (none)))
theorem carouselref03_Open.mono_l : ∀ k, (∀ y0 y1, LeO (carouselref03_Open.j0 k y0 y1) (carouselref03_Open.j0 (k + 1) y0 y1)) ∧ (∀ y0 y1 y2 y3 y4 y5 y6 y7, LeO (carouselref03_Open.j1 k y0 y1 y2 y3 y4 y5 y6 y7) (carouselref03_Open.j1 (k + 1) y0 y1 y2 y3 y4 y5 y6 y7))
  | 0 => ⟨fun _ _ r h => by simp [carouselref03_Open.j0] at h, fun _ _ _ _ _ _ _ _ r h => by simp [carouselref03_Open.j1] at h⟩
  | k + 1 => by
    obtain ⟨ih0, ih1⟩ := carouselref03_Open.mono_l k
    refine ⟨?_, ?_⟩
    · intro y0 y1
      unfold carouselref03_Open.j0
      repeat' first
      | (with_reducible exact ih0 _ _)
      | (with_reducible exact ih1 _ _ _ _ _ _ _ _)
      | (with_reducible exact carouselref01_Get.mono _ _ _ _)
      | (with_reducible exact LeO.refl _)
      | (with_reducible exact LeO.none _)
      | (with_reducible refine LeO.ite ?_ ?_)
      | (with_reducible refine LeO.bind ?_ (fun _ => ?_))
      | exact ih0 _ _
      | exact ih1 _ _ _ _ _ _ _ _
      | exact carouselref01_Get.mono _ _ _ _
      | exact LeO.none _
      | refine LeO.ite ?_ ?_
      | refine LeO.bind ?_ (fun _ => ?_)
    · intro y0 y1 y2 y3 y4 y5 y6 y7
      unfold carouselref03_Open.j1
      repeat' first
      | (with_reducible exact ih0 _ _)
      | (with_reducible exact ih1 _ _ _ _ _ _ _ _)
      | (with_reducible exact carouselref01_Get.mono _ _ _ _)
      | (with_reducible exact LeO.refl _)
      | (with_reducible exact LeO.none _)
      | (with_reducible refine LeO.ite ?_ ?_)
      | (with_reducible refine LeO.bind ?_ (fun _ => ?_))
      | exact ih0 _ _
      | exact ih1 _ _ _ _ _ _ _ _
      | exact carouselref01_Get.mono _ _ _ _
      | exact LeO.none _
      | refine LeO.ite ?_ ?_
      | refine LeO.bind ?_ (fun _ => ?_)
theorem carouselref03_Open.mono : ∀ a0 k, LeO (carouselref03_Open.f k a0) (carouselref03_Open.f (k + 1) a0) := by
  intro a0 k
  obtain ⟨ih0, ih1⟩ := carouselref03_Open.mono_l k
  unfold carouselref03_Open.f
  repeat' first
      | (with_reducible exact ih0 _ _)
      | (with_reducible exact ih1 _ _ _ _ _ _ _ _)
      | (with_reducible exact carouselref01_Get.mono _ _ _ _)
      | (with_reducible exact LeO.refl _)
      | (with_reducible exact LeO.none _)
      | (with_reducible refine LeO.ite ?_ ?_)
      | (with_reducible refine LeO.bind ?_ (fun _ => ?_))
      | exact ih0 _ _
      | exact ih1 _ _ _ _ _ _ _ _
      | exact carouselref01_Get.mono _ _ _ _
      | exact LeO.none _
      | refine LeO.ite ?_ ?_
      | refine LeO.bind ?_ (fun _ => ?_)
def carouselref03_Open.T8 : Bool × List (List Nat × List Nat) := (true, [([], []), ([0], [0]), ([], []), ([2, 1], [2]), ([], []), ([4], [4]), ([5], [5]), ([], []), ([7], [7]), ([8], [8]), ([9], [9]), ([], []), ([11], [11]), ([12], [12]), ([], []), ([14, 3], [14]), ([15], [15]), ([], []), ([17], [17]), ([1, 3, 6, 10, 13, 16, 18], [1, 3, 6, 10, 13, 16, 18]), ([], []), ([20, 19, 15, 0, 1, 2, 3, 4, 5, 6, 7, 8, 9, 10, 11, 12, 13, 14, 15, 16, 17, 18, 19, 20], [19, 20])])
def carouselref03_Open.B8 : List Nat := [0, 1, 0, 7, 0, 16, 48, 0, 128, 384, 896, 0, 2048, 6144, 0, 16399, 49167, 0, 131072, 524287, 0, 2097151]
theorem carouselref03_Open.tab8 : rtab .any (opsOf Try.f11 8) = carouselref03_Open.T8 := by kernel_rfl
theorem carouselref03_Open.bits8 : waitsOk carouselref03_Open.T8.2 carouselref03_Open.B8 = true := by kernel_rfl
set_option maxHeartbeats 8000000 in
set_option maxRecDepth 100000 in
theorem carouselref03_Open.calls (k : Nat) (a0 : ByteArray) (r1 : Int) (r2 : Int) (r3 : Int) (r4 : Bool) (r5 : Int) (r6 : Int) (r7 : ByteArray) (r8 : Int) (w : World) (h : carouselref03_Open.f k a0 = some (r1, r2, r3, r4, r5, r6, r7, r8)) :
    Calls Try.prog 11 #[.string a0] w fun e w' => e = .returned (.tuple #[.agg #[.int .u64 r1, .int .u64 r2, .int .u8 r3, .bool r4, .int .u16 r5, .int .u16 r6, .string r7], .int .i64 r8]) ∧ Below w.heap.size w w' := by
  have hu32 := Try.underlying32
  have HB := Aside0.mk (Below.refl w.heap.size w)
  have H : (if (a0.size : Int) < 18 then (some (0, 0, 0, false, 0, 0, (⟨#[]⟩ : ByteArray), 1)) else (if (a0.size : Int) > 1600 then (some (0, 0, 0, false, 0, 0, (⟨#[]⟩ : ByteArray), 2)) else (if 12 < (a0.size : Int) then (if (bt a0 12) = 129 then (if 13 < (a0.size : Int) then (carouselref03_Open.j0 k a0 ((bt a0 13) != 0)) else (none)) else (carouselref03_Open.j0 k a0 true)) else (none)))) = some (r1, r2, r3, r4, r5, r6, r7, r8) := h
  clear h
  by_cases c2 : (a0.size : Int) < 18
  · rw [if_pos c2] at H
    have c2b0 : decide ((a0.size : Int) < 18) = true := decide_eq_true c2
    have c2b1 : decide (a0.size < 18) = true := decide_eq_true (by omega)
    clear c2
    simp only [Option.some.injEq, Prod.mk.injEq] at H
    obtain ⟨rfl, rfl, rfl, rfl, rfl, rfl, rfl, rfl⟩ := H
    go_enter Try.func11, Try.ntmps11
    go_wp2_with (first | ((with_reducible refine gate_dst (N := 2) rfl ?_); refine box_event ?hg (N := 2) ?hd (cs := #[.int .u64 0, .int .u64 0, .int .u8 0, .bool false, .int .u16 0, .int .u16 0, .string (⟨#[]⟩ : ByteArray)]) (t := 32) ?hr ?_; (case hd => rfl); (case hg => rfl); (case hr => first | (go_simp; done) | (go_simp; rfl)); intro gb190 hg w3 hbox hb; have n0_ := Aside0.mk (below_step (by repeat (first | (with_reducible first | exact HB.out | apply below_alloc | apply pw_below_drewN | apply below_drew1) | exact HB.out)) hb); have n1_ := Aside0.mk (hbox); have n2_ := Aside0.mk ((by rw [hg]; exact (below_size (by repeat (first | (with_reducible first | exact HB.out | apply below_alloc | apply pw_below_drewN | apply below_drew1) | exact HB.out))) : w.heap.size ≤ gb190)); have n3_ := Aside0.mk ((by rw [hg]; exact (below_size (by repeat (first | (with_reducible first | exact HB.out | apply below_alloc | apply pw_below_drewN | apply below_drew1) | exact HB.out))) : w.heap.size ≤ gb190)); clear HB; have HB := n0_; have BK190 := n1_; have GW190 := n2_; have GE190 := n3_; clear n0_ n1_ n2_ n3_; clear hb hbox hg; have hcz4_0 : w3.cell? ⟨gb190, 0, none⟩ = some (.int .u64 0) := (blk_cell BK190.out 0).trans rfl; have hcz4_1 : w3.cell? ⟨gb190, 1, none⟩ = some (.int .u64 0) := (blk_cell BK190.out 1).trans rfl; have hcz4_2 : w3.cell? ⟨gb190, 2, none⟩ = some (.int .u8 0) := (blk_cell BK190.out 2).trans rfl; have hcz4_3 : w3.cell? ⟨gb190, 3, none⟩ = some (.bool false) := (blk_cell BK190.out 3).trans rfl; have hcz4_4 : w3.cell? ⟨gb190, 4, none⟩ = some (.int .u16 0) := (blk_cell BK190.out 4).trans rfl; have hcz4_5 : w3.cell? ⟨gb190, 5, none⟩ = some (.int .u16 0) := (blk_cell BK190.out 5).trans rfl; have hcz4_6 : w3.cell? ⟨gb190, 6, none⟩ = some (.string (⟨#[]⟩ : ByteArray)) := (blk_cell BK190.out 6).trans rfl; have hfz4_0 := blk_frozen BK190.out 0; have hfz4_1 := blk_frozen BK190.out 1; have hfz4_2 := blk_frozen BK190.out 2; have hfz4_3 := blk_frozen BK190.out 3; have hfz4_4 := blk_frozen BK190.out 4; have hfz4_5 := blk_frozen BK190.out 5; have hfz4_6 := blk_frozen BK190.out 6))
    refine bodyPost_ret (results_ct rfl _ _ gb190 32 #[.int .u64 0, .int .u64 0, .int .u8 0, .bool false, .int .u16 0, .int .u16 0, .string (⟨#[]⟩ : ByteArray)] (0, 0) _ rfl (by (with_reducible repeat (first | refine blk_drewN ?_ _ | refine blk_drew ?_ | refine blk_alloc ?_ _)); refine blk_put (cs := #[.int .u64 0, .int .u64 0, .int .u8 0, .bool false, .int .u16 0, .int .u16 0, .string (⟨#[]⟩ : ByteArray)]) ?_ 6 _ rfl; (with_reducible repeat (first | refine blk_drewN ?_ _ | refine blk_drew ?_ | refine blk_alloc ?_ _)); refine blk_put (cs := #[.int .u64 0, .int .u64 0, .int .u8 0, .bool false, .int .u16 0, .int .u16 0, .string (⟨#[]⟩ : ByteArray)]) ?_ 5 _ rfl; (with_reducible repeat (first | refine blk_drewN ?_ _ | refine blk_drew ?_ | refine blk_alloc ?_ _)); refine blk_put (cs := #[.int .u64 0, .int .u64 0, .int .u8 0, .bool false, .int .u16 0, .int .u16 0, .string (⟨#[]⟩ : ByteArray)]) ?_ 4 _ rfl; (with_reducible repeat (first | refine blk_drewN ?_ _ | refine blk_drew ?_ | refine blk_alloc ?_ _)); refine blk_put (cs := #[.int .u64 0, .int .u64 0, .int .u8 0, .bool false, .int .u16 0, .int .u16 0, .string (⟨#[]⟩ : ByteArray)]) ?_ 3 _ rfl; (with_reducible repeat (first | refine blk_drewN ?_ _ | refine blk_drew ?_ | refine blk_alloc ?_ _)); refine blk_put (cs := #[.int .u64 0, .int .u64 0, .int .u8 0, .bool false, .int .u16 0, .int .u16 0, .string (⟨#[]⟩ : ByteArray)]) ?_ 2 _ rfl; (with_reducible repeat (first | refine blk_drewN ?_ _ | refine blk_drew ?_ | refine blk_alloc ?_ _)); refine blk_put (cs := #[.int .u64 0, .int .u64 0, .int .u8 0, .bool false, .int .u16 0, .int .u16 0, .string (⟨#[]⟩ : ByteArray)]) ?_ 1 _ rfl; (with_reducible repeat (first | refine blk_drewN ?_ _ | refine blk_drew ?_ | refine blk_alloc ?_ _)); refine blk_put (cs := #[.int .u64 0, .int .u64 0, .int .u8 0, .bool false, .int .u16 0, .int .u16 0, .string (⟨#[]⟩ : ByteArray)]) ?_ 0 _ rfl; (with_reducible repeat (first | refine blk_drewN ?_ _ | refine blk_drew ?_ | refine blk_alloc ?_ _)); exact BK190.out) Try.underlying32 rfl (by kernel_rfl)) rfl ?_
    exact ⟨by first | rfl | (simp [errW_none, errW_some] <;> rfl) | (simp [*, errW_none, errW_some] <;> rfl), by repeat (first | (with_reducible first | exact HB.out | apply below_alloc | apply pw_below_drewN | apply below_drew1 | refine below_set ?_ GE190.out) | exact HB.out)⟩
  · rw [if_neg c2] at H
    have c2b0 : decide ((a0.size : Int) < 18) = false := decide_eq_false c2
    have c2b1 : decide (a0.size < 18) = false := decide_eq_false (by omega)
    clear c2
    by_cases c5 : (a0.size : Int) > 1600
    · rw [if_pos c5] at H
      have c5b0 : decide (1600 < (a0.size : Int)) = true := decide_eq_true c5
      have c5b1 : decide (1600 < a0.size) = true := decide_eq_true (by omega)
      clear c5
      simp only [Option.some.injEq, Prod.mk.injEq] at H
      obtain ⟨rfl, rfl, rfl, rfl, rfl, rfl, rfl, rfl⟩ := H
      go_enter Try.func11, Try.ntmps11
      go_wp2_with (first | ((with_reducible refine gate_dst (N := 2) rfl ?_); refine box_event ?hg (N := 2) ?hd (cs := #[.int .u64 0, .int .u64 0, .int .u8 0, .bool false, .int .u16 0, .int .u16 0, .string (⟨#[]⟩ : ByteArray)]) (t := 32) ?hr ?_; (case hd => rfl); (case hg => rfl); (case hr => first | (go_simp; done) | (go_simp; rfl)); intro gb190 hg w6 hbox hb; have n0_ := Aside0.mk (below_step (by repeat (first | (with_reducible first | exact HB.out | apply below_alloc | apply pw_below_drewN | apply below_drew1) | exact HB.out)) hb); have n1_ := Aside0.mk (hbox); have n2_ := Aside0.mk ((by rw [hg]; exact (below_size (by repeat (first | (with_reducible first | exact HB.out | apply below_alloc | apply pw_below_drewN | apply below_drew1) | exact HB.out))) : w.heap.size ≤ gb190)); have n3_ := Aside0.mk ((by rw [hg]; exact (below_size (by repeat (first | (with_reducible first | exact HB.out | apply below_alloc | apply pw_below_drewN | apply below_drew1) | exact HB.out))) : w.heap.size ≤ gb190)); clear HB; have HB := n0_; have BK190 := n1_; have GW190 := n2_; have GE190 := n3_; clear n0_ n1_ n2_ n3_; clear hb hbox hg; have hcz7_0 : w6.cell? ⟨gb190, 0, none⟩ = some (.int .u64 0) := (blk_cell BK190.out 0).trans rfl; have hcz7_1 : w6.cell? ⟨gb190, 1, none⟩ = some (.int .u64 0) := (blk_cell BK190.out 1).trans rfl; have hcz7_2 : w6.cell? ⟨gb190, 2, none⟩ = some (.int .u8 0) := (blk_cell BK190.out 2).trans rfl; have hcz7_3 : w6.cell? ⟨gb190, 3, none⟩ = some (.bool false) := (blk_cell BK190.out 3).trans rfl; have hcz7_4 : w6.cell? ⟨gb190, 4, none⟩ = some (.int .u16 0) := (blk_cell BK190.out 4).trans rfl; have hcz7_5 : w6.cell? ⟨gb190, 5, none⟩ = some (.int .u16 0) := (blk_cell BK190.out 5).trans rfl; have hcz7_6 : w6.cell? ⟨gb190, 6, none⟩ = some (.string (⟨#[]⟩ : ByteArray)) := (blk_cell BK190.out 6).trans rfl; have hfz7_0 := blk_frozen BK190.out 0; have hfz7_1 := blk_frozen BK190.out 1; have hfz7_2 := blk_frozen BK190.out 2; have hfz7_3 := blk_frozen BK190.out 3; have hfz7_4 := blk_frozen BK190.out 4; have hfz7_5 := blk_frozen BK190.out 5; have hfz7_6 := blk_frozen BK190.out 6))
      refine bodyPost_ret (results_ct rfl _ _ gb190 32 #[.int .u64 0, .int .u64 0, .int .u8 0, .bool false, .int .u16 0, .int .u16 0, .string (⟨#[]⟩ : ByteArray)] (0, 0) _ rfl (by (with_reducible repeat (first | refine blk_drewN ?_ _ | refine blk_drew ?_ | refine blk_alloc ?_ _)); refine blk_put (cs := #[.int .u64 0, .int .u64 0, .int .u8 0, .bool false, .int .u16 0, .int .u16 0, .string (⟨#[]⟩ : ByteArray)]) ?_ 6 _ rfl; (with_reducible repeat (first | refine blk_drewN ?_ _ | refine blk_drew ?_ | refine blk_alloc ?_ _)); refine blk_put (cs := #[.int .u64 0, .int .u64 0, .int .u8 0, .bool false, .int .u16 0, .int .u16 0, .string (⟨#[]⟩ : ByteArray)]) ?_ 5 _ rfl; (with_reducible repeat (first | refine blk_drewN ?_ _ | refine blk_drew ?_ | refine blk_alloc ?_ _)); refine blk_put (cs := #[.int .u64 0, .int .u64 0, .int .u8 0, .bool false, .int .u16 0, .int .u16 0, .string (⟨#[]⟩ : ByteArray)]) ?_ 4 _ rfl; (with_reducible repeat (first | refine blk_drewN ?_ _ | refine blk_drew ?_ | refine blk_alloc ?_ _)); refine blk_put (cs := #[.int .u64 0, .int .u64 0, .int .u8 0, .bool false, .int .u16 0, .int .u16 0, .string (⟨#[]⟩ : ByteArray)]) ?_ 3 _ rfl; (with_reducible repeat (first | refine blk_drewN ?_ _ | refine blk_drew ?_ | refine blk_alloc ?_ _)); refine blk_put (cs := #[.int .u64 0, .int .u64 0, .int .u8 0, .bool false, .int .u16 0, .int .u16 0, .string (⟨#[]⟩ : ByteArray)]) ?_ 2 _ rfl; (with_reducible repeat (first | refine blk_drewN ?_ _ | refine blk_drew ?_ | refine blk_alloc ?_ _)); refine blk_put (cs := #[.int .u64 0, .int .u64 0, .int .u8 0, .bool false, .int .u16 0, .int .u16 0, .string (⟨#[]⟩ : ByteArray)]) ?_ 1 _ rfl; (with_reducible repeat (first | refine blk_drewN ?_ _ | refine blk_drew ?_ | refine blk_alloc ?_ _)); refine blk_put (cs := #[.int .u64 0, .int .u64 0, .int .u8 0, .bool false, .int .u16 0, .int .u16 0, .string (⟨#[]⟩ : ByteArray)]) ?_ 0 _ rfl; (with_reducible repeat (first | refine blk_drewN ?_ _ | refine blk_drew ?_ | refine blk_alloc ?_ _)); exact BK190.out) Try.underlying32 rfl (by kernel_rfl)) rfl ?_
      exact ⟨by first | rfl | (simp [errW_none, errW_some] <;> rfl) | (simp [*, errW_none, errW_some] <;> rfl), by repeat (first | (with_reducible first | exact HB.out | apply below_alloc | apply pw_below_drewN | apply below_drew1 | refine below_set ?_ GE190.out) | exact HB.out)⟩
    · rw [if_neg c5] at H
      have c5b0 : decide (1600 < (a0.size : Int)) = false := decide_eq_false c5
      have c5b1 : decide (1600 < a0.size) = false := decide_eq_false (by omega)
      clear c5
      have HC8 := Aside0.mk H
      clear H
      go_enter Try.func11, Try.ntmps11
      go_upto_region 5 with (first | ((with_reducible refine gate_dst (N := 2) rfl ?_); refine box_event ?hg (N := 2) ?hd (cs := #[.int .u64 0, .int .u64 0, .int .u8 0, .bool false, .int .u16 0, .int .u16 0, .string (⟨#[]⟩ : ByteArray)]) (t := 32) ?hr ?_; (case hd => rfl); (case hg => rfl); (case hr => first | (go_simp; done) | (go_simp; rfl)); intro gb190 hg w9 hbox hb; have n0_ := Aside0.mk (below_step (by repeat (first | (with_reducible first | exact HB.out | apply below_alloc | apply pw_below_drewN | apply below_drew1) | exact HB.out)) hb); have n1_ := Aside0.mk (hbox); have n2_ := Aside0.mk ((by rw [hg]; exact (below_size (by repeat (first | (with_reducible first | exact HB.out | apply below_alloc | apply pw_below_drewN | apply below_drew1) | exact HB.out))) : w.heap.size ≤ gb190)); have n3_ := Aside0.mk ((by rw [hg]; exact (below_size (by repeat (first | (with_reducible first | exact HB.out | apply below_alloc | apply pw_below_drewN | apply below_drew1) | exact HB.out))) : w.heap.size ≤ gb190)); clear HB; have HB := n0_; have BK190 := n1_; have GW190 := n2_; have GE190 := n3_; clear n0_ n1_ n2_ n3_; clear hb hbox hg))
      (try simp only [Act.put, List.setIfInBounds_toArray, List.set_cons_zero, List.set_cons_succ])
      go_cut [21] (fun v21 wc => ∃ (kq : Nat) (x21_7 : Bool), v21 = .bool x21_7 ∧ Aside0 (carouselref03_Open.j0 kq a0 x21_7 = some (r1, r2, r3, r4, r5, r6, r7, r8)) ∧ Aside0 (kq ≤ k) ∧ Aside0 (wc.heap[gb190]? = some (.cells #[.int .u64 0, .int .u64 0, .int .u8 0, .bool false, .int .u16 0, .int .u16 0, .string (⟨#[]⟩ : ByteArray)] 32 (0, 0))) ∧ Aside0 (Below w.heap.size w wc))
      case first =>
        have H := HC8.out
        clear HC8
        by_cases c10 : 12 < (a0.size : Int)
        · rw [if_pos c10] at H
          have c10b0 : decide (12 < (a0.size : Int)) = true := decide_eq_true c10
          have c10b1 : decide (12 < a0.size) = true := decide_eq_true (by omega)
          clear c10
          (first | rw [c10b0] | (simp only [i64_w, i32_w]; rw [c10b0]) | skip)
          by_cases c12 : (bt a0 12) = 129
          · rw [if_pos c12] at H
            have c12b0 : ((bt a0 12) == 129) = true := beq_iff_eq.mpr c12
            have c12b1 : ((bt a0 12) != 129) = false := bne_eq_false_iff_eq.mpr c12
            clear c12
            by_cases c13 : 13 < (a0.size : Int)
            · rw [if_pos c13] at H
              have c13b0 : decide (13 < (a0.size : Int)) = true := decide_eq_true c13
              have c13b1 : decide (13 < a0.size) = true := decide_eq_true (by omega)
              clear c13
              have H' := Aside0.mk H
              clear H
              have p11 : 0 ≤ (12 : Int) := (by omega)
              have q11 : 12 < a0.size := (by have : (12 : Int) < (a0.size : Int) := of_decide_eq_true (by first | (with_reducible assumption) | assumption); omega)
              have hx11 : ∀ h : 12 < a0.size, ((a0[12]'h).toNat : Int) = bt a0 12 := bt_at a0 12
              clear p11
              have qi11 : (12 < (a0.size : Int)) = True := eq_true (of_decide_eq_true (by first | (with_reducible assumption) | assumption))
              replace q11 := eq_true q11
              have p14 : 0 ≤ (13 : Int) := (by omega)
              have q14 : 13 < a0.size := (by have : (13 : Int) < (a0.size : Int) := of_decide_eq_true (by first | (with_reducible assumption) | assumption); omega)
              have hx14 : ∀ h : 13 < a0.size, ((a0[13]'h).toNat : Int) = bt a0 13 := bt_at a0 13
              clear p14
              have qi14 : (13 < (a0.size : Int)) = True := eq_true (of_decide_eq_true (by first | (with_reducible assumption) | assumption))
              replace q14 := eq_true q14
              go_wp2
              go_meet
              case rel => exact ⟨_, (((bt a0 13) != 0)), (by first | rfl | (simp; done) | (simp [*]; done)), H', ⟨by first | omega | exact Nat.le_refl _⟩, ⟨by (with_reducible repeat (first | refine blk_drewN ?_ _ | refine blk_drew ?_ | refine blk_alloc ?_ _)); exact BK190.out⟩, ⟨by repeat (first | (with_reducible first | exact HB.out | apply below_alloc | apply pw_below_drewN | apply below_drew1 | refine below_set ?_ GE190.out) | exact HB.out)⟩⟩
            · rw [if_neg c13] at H
              exact absurd H (by simp)
          · rw [if_neg c12] at H
            have c12b0 : ((bt a0 12) == 129) = false := beq_eq_false_iff_ne.mpr c12
            have c12b1 : ((bt a0 12) != 129) = true := bne_iff_ne.mpr c12
            have H' := Aside0.mk H
            clear H
            have p11 : 0 ≤ (12 : Int) := (by omega)
            have q11 : 12 < a0.size := (by have : (12 : Int) < (a0.size : Int) := of_decide_eq_true (by first | (with_reducible assumption) | assumption); omega)
            have hx11 : ∀ h : 12 < a0.size, ((a0[12]'h).toNat : Int) = bt a0 12 := bt_at a0 12
            clear p11
            have qi11 : (12 < (a0.size : Int)) = True := eq_true (of_decide_eq_true (by first | (with_reducible assumption) | assumption))
            replace q11 := eq_true q11
            go_wp2
            go_meet
            case rel => exact ⟨_, (true), (by first | rfl | (simp; done) | (simp [*]; done)), H', ⟨by first | omega | exact Nat.le_refl _⟩, ⟨by (with_reducible repeat (first | refine blk_drewN ?_ _ | refine blk_drew ?_ | refine blk_alloc ?_ _)); exact BK190.out⟩, ⟨by repeat (first | (with_reducible first | exact HB.out | apply below_alloc | apply pw_below_drewN | apply below_drew1 | refine below_set ?_ GE190.out) | exact HB.out)⟩⟩
        · rw [if_neg c10] at H
          exact absurd H (by simp)
      case rest =>
        clear HC8
        try clear c1
        try clear p1
        try clear q1
        try clear hx1
        try clear qi1
        try clear c2
        try clear c2b0
        try clear c2b1
        try clear p2
        try clear c5
        try clear c5b0
        try clear c5b1
        try clear c10
        try clear c10b0
        try clear c10b1
        try clear c11
        try clear p11
        try clear q11
        try clear hx11
        try clear qi11
        try clear c12
        try clear c12b0
        try clear c12b1
        try clear c13
        try clear c13b0
        try clear c13b1
        try clear p14
        try clear q14
        try clear hx14
        try clear qi14
        try clear hcz4_0
        try clear hcz4_1
        try clear hcz4_2
        try clear hcz4_3
        try clear hcz4_4
        try clear hcz4_5
        try clear hcz4_6
        try clear hcz7_0
        try clear hcz7_1
        try clear hcz7_2
        try clear hcz7_3
        try clear hcz7_4
        try clear hcz7_5
        try clear hcz7_6
        try clear hfz4_0
        try clear hfz4_1
        try clear hfz4_2
        try clear hfz4_3
        try clear hfz4_4
        try clear hfz4_5
        try clear hfz4_6
        try clear hfz7_0
        try clear hfz7_1
        try clear hfz7_2
        try clear hfz7_3
        try clear hfz7_4
        try clear hfz7_5
        try clear hfz7_6
        try clear p11
        try clear p14
        try clear q11
        try clear q14
        obtain ⟨kq, x21_7, rfl, HA, HJ7, BK190, HB⟩ := hcut
        cases kq with
        | zero => exact absurd HA.out (by simp [carouselref03_Open.j0])
        | succ kj7 =>
          have H := HA.out
          clear HA
          simp only [carouselref03_Open.j0] at H
          by_cases c15 : x21_7 = true
          · subst c15
            have H1 : (some (0, 0, 0, false, 0, 0, (⟨#[]⟩ : ByteArray), 5)) = some (r1, r2, r3, r4, r5, r6, r7, r8) := by rw [if_pos rfl] at H; exact H
            clear H
            have H := H1
            clear H1
            simp only [Option.some.injEq, Prod.mk.injEq] at H
            obtain ⟨rfl, rfl, rfl, rfl, rfl, rfl, rfl, rfl⟩ := H
            have hcz16_0 : wc.cell? ⟨gb190, 0, none⟩ = some (.int .u64 0) := (blk_cell BK190.out 0).trans rfl
            have hcz16_1 : wc.cell? ⟨gb190, 1, none⟩ = some (.int .u64 0) := (blk_cell BK190.out 1).trans rfl
            have hcz16_2 : wc.cell? ⟨gb190, 2, none⟩ = some (.int .u8 0) := (blk_cell BK190.out 2).trans rfl
            have hcz16_3 : wc.cell? ⟨gb190, 3, none⟩ = some (.bool false) := (blk_cell BK190.out 3).trans rfl
            have hcz16_4 : wc.cell? ⟨gb190, 4, none⟩ = some (.int .u16 0) := (blk_cell BK190.out 4).trans rfl
            have hcz16_5 : wc.cell? ⟨gb190, 5, none⟩ = some (.int .u16 0) := (blk_cell BK190.out 5).trans rfl
            have hcz16_6 : wc.cell? ⟨gb190, 6, none⟩ = some (.string (⟨#[]⟩ : ByteArray)) := (blk_cell BK190.out 6).trans rfl
            have hfz16_0 := blk_frozen BK190.out 0
            have hfz16_1 := blk_frozen BK190.out 1
            have hfz16_2 := blk_frozen BK190.out 2
            have hfz16_3 := blk_frozen BK190.out 3
            have hfz16_4 := blk_frozen BK190.out 4
            have hfz16_5 := blk_frozen BK190.out 5
            have hfz16_6 := blk_frozen BK190.out 6
            go_wp2
            refine bodyPost_ret (results_ct rfl _ _ gb190 32 #[.int .u64 0, .int .u64 0, .int .u8 0, .bool false, .int .u16 0, .int .u16 0, .string (⟨#[]⟩ : ByteArray)] (0, 0) _ rfl (by (with_reducible repeat (first | refine blk_drewN ?_ _ | refine blk_drew ?_ | refine blk_alloc ?_ _)); refine blk_put (cs := #[.int .u64 0, .int .u64 0, .int .u8 0, .bool false, .int .u16 0, .int .u16 0, .string (⟨#[]⟩ : ByteArray)]) ?_ 6 _ rfl; (with_reducible repeat (first | refine blk_drewN ?_ _ | refine blk_drew ?_ | refine blk_alloc ?_ _)); refine blk_put (cs := #[.int .u64 0, .int .u64 0, .int .u8 0, .bool false, .int .u16 0, .int .u16 0, .string (⟨#[]⟩ : ByteArray)]) ?_ 5 _ rfl; (with_reducible repeat (first | refine blk_drewN ?_ _ | refine blk_drew ?_ | refine blk_alloc ?_ _)); refine blk_put (cs := #[.int .u64 0, .int .u64 0, .int .u8 0, .bool false, .int .u16 0, .int .u16 0, .string (⟨#[]⟩ : ByteArray)]) ?_ 4 _ rfl; (with_reducible repeat (first | refine blk_drewN ?_ _ | refine blk_drew ?_ | refine blk_alloc ?_ _)); refine blk_put (cs := #[.int .u64 0, .int .u64 0, .int .u8 0, .bool false, .int .u16 0, .int .u16 0, .string (⟨#[]⟩ : ByteArray)]) ?_ 3 _ rfl; (with_reducible repeat (first | refine blk_drewN ?_ _ | refine blk_drew ?_ | refine blk_alloc ?_ _)); refine blk_put (cs := #[.int .u64 0, .int .u64 0, .int .u8 0, .bool false, .int .u16 0, .int .u16 0, .string (⟨#[]⟩ : ByteArray)]) ?_ 2 _ rfl; (with_reducible repeat (first | refine blk_drewN ?_ _ | refine blk_drew ?_ | refine blk_alloc ?_ _)); refine blk_put (cs := #[.int .u64 0, .int .u64 0, .int .u8 0, .bool false, .int .u16 0, .int .u16 0, .string (⟨#[]⟩ : ByteArray)]) ?_ 1 _ rfl; (with_reducible repeat (first | refine blk_drewN ?_ _ | refine blk_drew ?_ | refine blk_alloc ?_ _)); refine blk_put (cs := #[.int .u64 0, .int .u64 0, .int .u8 0, .bool false, .int .u16 0, .int .u16 0, .string (⟨#[]⟩ : ByteArray)]) ?_ 0 _ rfl; (with_reducible repeat (first | refine blk_drewN ?_ _ | refine blk_drew ?_ | refine blk_alloc ?_ _)); exact BK190.out) Try.underlying32 rfl (by kernel_rfl)) rfl ?_
            exact ⟨by first | rfl | (simp [errW_none, errW_some] <;> rfl) | (simp [*, errW_none, errW_some] <;> rfl), by repeat (first | (with_reducible first | exact HB.out | apply below_alloc | apply pw_below_drewN | apply below_drew1 | refine below_set ?_ GE190.out) | exact HB.out)⟩
          · replace c15 := Bool.eq_false_iff.mpr c15
            subst c15
            have H1 : ((carouselref01_Get.f kj7 a0 14 2).bind fun t191 => ((carouselref01_Get.f kj7 a0 0 6).bind fun t192 => ((carouselref01_Get.f kj7 a0 6 6).bind fun t193 => ((carouselref01_Get.f kj7 a0 16 2).bind fun t194 => (if 18 ≤ (a0.size : Int) then ((carouselref02_Group.f t193).bind fun t196 => (if t196 = true then (some (0, 0, 0, false, 0, 0, (⟨#[]⟩ : ByteArray), 3)) else (if (IntKind.u16.wrap (Int.tmod t191 4096)) = 0 then (carouselref03_Open.j1 kj7 true t192 t193 ((IntKind.u64.wrap (Int.tdiv t191 8192)) % 256) ((Int.tmod (IntKind.u64.wrap (Int.tdiv t191 4096)) 2) == 1) (IntKind.u16.wrap (Int.tmod t191 4096)) (IntKind.u16.wrap (t194)) (a0.extract 18 a0.size)) else (carouselref03_Open.j1 kj7 ((IntKind.u16.wrap (Int.tmod t191 4096)) == 4095) t192 t193 ((IntKind.u64.wrap (Int.tdiv t191 8192)) % 256) ((Int.tmod (IntKind.u64.wrap (Int.tdiv t191 4096)) 2) == 1) (IntKind.u16.wrap (Int.tmod t191 4096)) (IntKind.u16.wrap (t194)) (a0.extract 18 a0.size))))) else (none)))))) = some (r1, r2, r3, r4, r5, r6, r7, r8) := by rw [if_neg (show ¬ (false = true) by decide)] at H; exact H
            clear H
            have H := H1
            clear H1
            replace H := Option.bind_eq_some_iff.mp H
            obtain ⟨t191, A170, H⟩ := H
            replace H : ((carouselref01_Get.f kj7 a0 0 6).bind fun t192 => ((carouselref01_Get.f kj7 a0 6 6).bind fun t193 => ((carouselref01_Get.f kj7 a0 16 2).bind fun t194 => (if 18 ≤ (a0.size : Int) then ((carouselref02_Group.f t193).bind fun t196 => (if t196 = true then (some (0, 0, 0, false, 0, 0, (⟨#[]⟩ : ByteArray), 3)) else (if (IntKind.u16.wrap (Int.tmod t191 4096)) = 0 then (carouselref03_Open.j1 kj7 true t192 t193 ((IntKind.u64.wrap (Int.tdiv t191 8192)) % 256) ((Int.tmod (IntKind.u64.wrap (Int.tdiv t191 4096)) 2) == 1) (IntKind.u16.wrap (Int.tmod t191 4096)) (IntKind.u16.wrap (t194)) (a0.extract 18 a0.size)) else (carouselref03_Open.j1 kj7 ((IntKind.u16.wrap (Int.tmod t191 4096)) == 4095) t192 t193 ((IntKind.u64.wrap (Int.tdiv t191 8192)) % 256) ((Int.tmod (IntKind.u64.wrap (Int.tdiv t191 4096)) 2) == 1) (IntKind.u16.wrap (Int.tmod t191 4096)) (IntKind.u16.wrap (t194)) (a0.extract 18 a0.size))))) else (none))))) = some (r1, r2, r3, r4, r5, r6, r7, r8) := H
            have A17 := Aside0.mk A170
            clear A170
            replace H := Option.bind_eq_some_iff.mp H
            obtain ⟨t192, A180, H⟩ := H
            replace H : ((carouselref01_Get.f kj7 a0 6 6).bind fun t193 => ((carouselref01_Get.f kj7 a0 16 2).bind fun t194 => (if 18 ≤ (a0.size : Int) then ((carouselref02_Group.f t193).bind fun t196 => (if t196 = true then (some (0, 0, 0, false, 0, 0, (⟨#[]⟩ : ByteArray), 3)) else (if (IntKind.u16.wrap (Int.tmod t191 4096)) = 0 then (carouselref03_Open.j1 kj7 true t192 t193 ((IntKind.u64.wrap (Int.tdiv t191 8192)) % 256) ((Int.tmod (IntKind.u64.wrap (Int.tdiv t191 4096)) 2) == 1) (IntKind.u16.wrap (Int.tmod t191 4096)) (IntKind.u16.wrap (t194)) (a0.extract 18 a0.size)) else (carouselref03_Open.j1 kj7 ((IntKind.u16.wrap (Int.tmod t191 4096)) == 4095) t192 t193 ((IntKind.u64.wrap (Int.tdiv t191 8192)) % 256) ((Int.tmod (IntKind.u64.wrap (Int.tdiv t191 4096)) 2) == 1) (IntKind.u16.wrap (Int.tmod t191 4096)) (IntKind.u16.wrap (t194)) (a0.extract 18 a0.size))))) else (none)))) = some (r1, r2, r3, r4, r5, r6, r7, r8) := H
            have A18 := Aside0.mk A180
            clear A180
            replace H := Option.bind_eq_some_iff.mp H
            obtain ⟨t193, A190, H⟩ := H
            replace H : ((carouselref01_Get.f kj7 a0 16 2).bind fun t194 => (if 18 ≤ (a0.size : Int) then ((carouselref02_Group.f t193).bind fun t196 => (if t196 = true then (some (0, 0, 0, false, 0, 0, (⟨#[]⟩ : ByteArray), 3)) else (if (IntKind.u16.wrap (Int.tmod t191 4096)) = 0 then (carouselref03_Open.j1 kj7 true t192 t193 ((IntKind.u64.wrap (Int.tdiv t191 8192)) % 256) ((Int.tmod (IntKind.u64.wrap (Int.tdiv t191 4096)) 2) == 1) (IntKind.u16.wrap (Int.tmod t191 4096)) (IntKind.u16.wrap (t194)) (a0.extract 18 a0.size)) else (carouselref03_Open.j1 kj7 ((IntKind.u16.wrap (Int.tmod t191 4096)) == 4095) t192 t193 ((IntKind.u64.wrap (Int.tdiv t191 8192)) % 256) ((Int.tmod (IntKind.u64.wrap (Int.tdiv t191 4096)) 2) == 1) (IntKind.u16.wrap (Int.tmod t191 4096)) (IntKind.u16.wrap (t194)) (a0.extract 18 a0.size))))) else (none))) = some (r1, r2, r3, r4, r5, r6, r7, r8) := H
            have A19 := Aside0.mk A190
            clear A190
            replace H := Option.bind_eq_some_iff.mp H
            obtain ⟨t194, A200, H⟩ := H
            replace H : (if 18 ≤ (a0.size : Int) then ((carouselref02_Group.f t193).bind fun t196 => (if t196 = true then (some (0, 0, 0, false, 0, 0, (⟨#[]⟩ : ByteArray), 3)) else (if (IntKind.u16.wrap (Int.tmod t191 4096)) = 0 then (carouselref03_Open.j1 kj7 true t192 t193 ((IntKind.u64.wrap (Int.tdiv t191 8192)) % 256) ((Int.tmod (IntKind.u64.wrap (Int.tdiv t191 4096)) 2) == 1) (IntKind.u16.wrap (Int.tmod t191 4096)) (IntKind.u16.wrap (t194)) (a0.extract 18 a0.size)) else (carouselref03_Open.j1 kj7 ((IntKind.u16.wrap (Int.tmod t191 4096)) == 4095) t192 t193 ((IntKind.u64.wrap (Int.tdiv t191 8192)) % 256) ((Int.tmod (IntKind.u64.wrap (Int.tdiv t191 4096)) 2) == 1) (IntKind.u16.wrap (Int.tmod t191 4096)) (IntKind.u16.wrap (t194)) (a0.extract 18 a0.size))))) else (none)) = some (r1, r2, r3, r4, r5, r6, r7, r8) := H
            have A20 := Aside0.mk A200
            clear A200
            by_cases c21 : 18 ≤ (a0.size : Int)
            · rw [if_pos c21] at H
              have c21b0 := eq_true c21
              have c21b1 : decide (18 ≤ (a0.size : Int)) = true := decide_eq_true c21
              clear c21
              replace H := Option.bind_eq_some_iff.mp H
              obtain ⟨t196, A220, H⟩ := H
              replace H : (if t196 = true then (some (0, 0, 0, false, 0, 0, (⟨#[]⟩ : ByteArray), 3)) else (if (IntKind.u16.wrap (Int.tmod t191 4096)) = 0 then (carouselref03_Open.j1 kj7 true t192 t193 ((IntKind.u64.wrap (Int.tdiv t191 8192)) % 256) ((Int.tmod (IntKind.u64.wrap (Int.tdiv t191 4096)) 2) == 1) (IntKind.u16.wrap (Int.tmod t191 4096)) (IntKind.u16.wrap (t194)) (a0.extract 18 a0.size)) else (carouselref03_Open.j1 kj7 ((IntKind.u16.wrap (Int.tmod t191 4096)) == 4095) t192 t193 ((IntKind.u64.wrap (Int.tdiv t191 8192)) % 256) ((Int.tmod (IntKind.u64.wrap (Int.tdiv t191 4096)) 2) == 1) (IntKind.u16.wrap (Int.tmod t191 4096)) (IntKind.u16.wrap (t194)) (a0.extract 18 a0.size)))) = some (r1, r2, r3, r4, r5, r6, r7, r8) := H
              have A22 := Aside0.mk A220
              clear A220
              by_cases c23 : t196 = true
              · subst c23
                have H1 : (some (0, 0, 0, false, 0, 0, (⟨#[]⟩ : ByteArray), 3)) = some (r1, r2, r3, r4, r5, r6, r7, r8) := by rw [if_pos rfl] at H; exact H
                clear H
                have H := H1
                clear H1
                simp only [Option.some.injEq, Prod.mk.injEq] at H
                obtain ⟨rfl, rfl, rfl, rfl, rfl, rfl, rfl, rfl⟩ := H
                try go_wp2_with (first | ((with_reducible refine gate_callee (f := 32) rfl ?_); refine goesL_ (some 24) rfl rfl Try.func32 (by kernel_rfl) rfl #[.string a0, .int .i64 14, .int .i64 2] rfl (by (try simp only [List.map_toArray, List.map_cons, List.map_nil]); first | done | rfl | (simp only [List.length_drop, List.length_take]; rfl)) ?_; (with_reducible refine (carouselref01_Get.calls kj7 a0 14 2 t191 _ A17.out).mono ?_); rintro e w24 ⟨rfl, hb⟩; refine ⟨_, rfl, ?_⟩; have n0_ := Aside0.mk (blk_below (g := gb190) (o := .cells #[.int .u64 0, .int .u64 0, .int .u8 0, .bool false, .int .u16 0, .int .u16 0, .string (⟨#[]⟩ : ByteArray)] 32 (0, 0)) (by (with_reducible repeat (first | refine blk_drewN ?_ _ | refine blk_drew ?_ | refine blk_alloc ?_ _)); exact BK190.out) hb); have n1_ := Aside0.mk (below_step (by repeat (first | (with_reducible first | exact HB.out | apply below_alloc | apply pw_below_drewN | apply below_drew1 | refine below_set ?_ GE190.out) | exact HB.out)) hb); clear BK190; clear HB; have BK190 := n0_; have HB := n1_; clear n0_ n1_; (try clear hb); (try clear hb2); (try clear hk); (try clear hi)))
                have n0_ := Aside0.mk (blk_drew BK190.out)
                have n1_ := Aside0.mk (below_drew1 HB.out)
                clear BK190
                clear HB
                have BK190 := n0_
                have HB := n1_
                clear n0_ n1_
                refine start_ (n := 22) (S := fun w' => True) (ds := []) #[false, false, false, false, false, false, false, false, false, false, false, false, false, false, false, false, false, false, false, false, false, false] (by kernel_rfl) rfl rfl trivial (fun hHeld => ?_); refine with_tabW carouselref03_Open.tab8 carouselref03_Open.bits8 (fun HT_ HW_ => ?_)
                generalize w24.drew = w25 at BK190 HB hHeld ⊢
                refine pure_ (i := 0) (N := some 25) (v := ?_) (a' := ?_) #[true, false, false, false, false, false, false, false, false, false, false, false, false, false, false, false, false, false, false, false, false, false] rfl rfl (any_of HT_.out (by kernel_rfl)) (fun _ _ _ h => h) (Or.inl ⟨by rfl, ?_⟩) ?_ ?_
                rotate_left
                · intro w'
                  go_simp
                  with_reducible rfl
                rotate_left
                · simp only [Act.put, List.setIfInBounds_toArray, List.set_cons_zero, List.set_cons_succ, i64_w, i32_w]
                  rfl
                refine pure_ (i := 2) (N := some 27) (v := ?_) (a' := ?_) #[true, false, true, false, false, false, false, false, false, false, false, false, false, false, false, false, false, false, false, false, false, false] rfl rfl (any_of HT_.out (by kernel_rfl)) (fun _ _ _ h => h) (Or.inl ⟨by rfl, ?_⟩) ?_ ?_
                rotate_left
                · intro w'
                  go_simp
                  with_reducible rfl
                rotate_left
                · simp only [Act.put, List.setIfInBounds_toArray, List.set_cons_zero, List.set_cons_succ, i64_w, i32_w]
                  rfl
                refine pure_ (i := 4) (N := some 29) (v := ?_) (a' := ?_) #[true, false, true, false, true, false, false, false, false, false, false, false, false, false, false, false, false, false, false, false, false, false] rfl rfl (any_of HT_.out (by kernel_rfl)) (fun _ _ _ h => h) (Or.inl ⟨by rfl, ?_⟩) ?_ ?_
                rotate_left
                · intro w'
                  go_simp
                  with_reducible rfl
                rotate_left
                · simp only [Act.put, List.setIfInBounds_toArray, List.set_cons_zero, List.set_cons_succ, i64_w, i32_w]
                  rfl
                refine pure_ (i := 5) (N := some 30) (v := ?_) (a' := ?_) #[true, false, true, false, true, true, false, false, false, false, false, false, false, false, false, false, false, false, false, false, false, false] rfl rfl (any_of HT_.out (by kernel_rfl)) (fun _ _ _ h => h) (Or.inl ⟨by rfl, ?_⟩) ?_ ?_
                rotate_left
                · intro w'
                  go_simp
                  with_reducible rfl
                rotate_left
                · simp only [Act.put, List.setIfInBounds_toArray, List.set_cons_zero, List.set_cons_succ, i64_w, i32_w]
                  rfl
                refine pure_ (i := 6) (N := some 31) (v := ?_) (a' := ?_) #[true, false, true, false, true, true, true, false, false, false, false, false, false, false, false, false, false, false, false, false, false, false] rfl rfl (any_of HT_.out (by kernel_rfl)) (fun _ _ _ h => h) (Or.inl ⟨by rfl, ?_⟩) ?_ ?_
                rotate_left
                · intro w'
                  go_simp
                  with_reducible rfl
                rotate_left
                · simp only [Act.put, List.setIfInBounds_toArray, List.set_cons_zero, List.set_cons_succ, i64_w, i32_w]
                  rfl
                refine pure_ (i := 7) (N := some 32) (v := ?_) (a' := ?_) #[true, false, true, false, true, true, true, true, false, false, false, false, false, false, false, false, false, false, false, false, false, false] rfl rfl (any_of HT_.out (by kernel_rfl)) (fun _ _ _ h => h) (Or.inl ⟨by rfl, ?_⟩) ?_ ?_
                rotate_left
                · intro w'
                  go_simp
                  with_reducible rfl
                rotate_left
                · simp only [Act.put, List.setIfInBounds_toArray, List.set_cons_zero, List.set_cons_succ, i64_w, i32_w]
                  rfl
                refine pure_ (i := 8) (N := some 33) (v := ?_) (a' := ?_) #[true, false, true, false, true, true, true, true, true, false, false, false, false, false, false, false, false, false, false, false, false, false] rfl rfl (any_of HT_.out (by kernel_rfl)) (fun _ _ _ h => h) (Or.inl ⟨by rfl, ?_⟩) ?_ ?_
                rotate_left
                · intro w'
                  go_simp
                  with_reducible rfl
                rotate_left
                · simp only [Act.put, List.setIfInBounds_toArray, List.set_cons_zero, List.set_cons_succ, i64_w, i32_w]
                  rfl
                refine pure_ (i := 9) (N := some 34) (v := ?_) (a' := ?_) #[true, false, true, false, true, true, true, true, true, true, false, false, false, false, false, false, false, false, false, false, false, false] rfl rfl (any_of HT_.out (by kernel_rfl)) (fun _ _ _ h => h) (Or.inl ⟨by rfl, ?_⟩) ?_ ?_
                rotate_left
                · intro w'
                  go_simp
                  with_reducible rfl
                rotate_left
                · simp only [Act.put, List.setIfInBounds_toArray, List.set_cons_zero, List.set_cons_succ, i64_w, i32_w]
                  rfl
                refine pure_ (i := 10) (N := some 35) (v := ?_) (a' := ?_) #[true, false, true, false, true, true, true, true, true, true, true, false, false, false, false, false, false, false, false, false, false, false] rfl rfl (any_of HT_.out (by kernel_rfl)) (fun _ _ _ h => h) (Or.inl ⟨by rfl, ?_⟩) ?_ ?_
                rotate_left
                · intro w'
                  go_simp
                  with_reducible rfl
                rotate_left
                · simp only [Act.put, List.setIfInBounds_toArray, List.set_cons_zero, List.set_cons_succ, i64_w, i32_w]
                  rfl
                refine pure_ (i := 11) (N := some 36) (v := ?_) (a' := ?_) #[true, false, true, false, true, true, true, true, true, true, true, true, false, false, false, false, false, false, false, false, false, false] rfl rfl (any_of HT_.out (by kernel_rfl)) (fun _ _ _ h => h) (Or.inl ⟨by rfl, ?_⟩) ?_ ?_
                rotate_left
                · intro w'
                  go_simp
                  with_reducible rfl
                rotate_left
                · simp only [Act.put, List.setIfInBounds_toArray, List.set_cons_zero, List.set_cons_succ, i64_w, i32_w]
                  rfl
                refine pure_ (i := 12) (N := some 37) (v := ?_) (a' := ?_) #[true, false, true, false, true, true, true, true, true, true, true, true, true, false, false, false, false, false, false, false, false, false] rfl rfl (any_of HT_.out (by kernel_rfl)) (fun _ _ _ h => h) (Or.inl ⟨by rfl, ?_⟩) ?_ ?_
                rotate_left
                · intro w'
                  go_simp
                  with_reducible rfl
                rotate_left
                · simp only [Act.put, List.setIfInBounds_toArray, List.set_cons_zero, List.set_cons_succ, i64_w, i32_w]
                  rfl
                refine pure_ (i := 13) (N := some 38) (v := ?_) (a' := ?_) #[true, false, true, false, true, true, true, true, true, true, true, true, true, true, false, false, false, false, false, false, false, false] rfl rfl (any_of HT_.out (by kernel_rfl)) (fun _ _ _ h => h) (Or.inl ⟨by rfl, ?_⟩) ?_ ?_
                rotate_left
                · intro w'
                  go_simp
                  with_reducible rfl
                rotate_left
                · simp only [Act.put, List.setIfInBounds_toArray, List.set_cons_zero, List.set_cons_succ, i64_w, i32_w]
                  rfl
                refine pure_ (i := 14) (N := some 39) (v := ?_) (a' := ?_) #[true, false, true, false, true, true, true, true, true, true, true, true, true, true, true, false, false, false, false, false, false, false] rfl rfl (any_of HT_.out (by kernel_rfl)) (fun _ _ _ h => h) (Or.inl ⟨by rfl, ?_⟩) ?_ ?_
                rotate_left
                · intro w'
                  go_simp
                  with_reducible rfl
                rotate_left
                · simp only [Act.put, List.setIfInBounds_toArray, List.set_cons_zero, List.set_cons_succ, i64_w, i32_w]
                  rfl
                refine pure_ (i := 17) (N := some 42) (v := ?_) (a' := ?_) #[true, false, true, false, true, true, true, true, true, true, true, true, true, true, true, false, false, true, false, false, false, false] rfl rfl (any_of HT_.out (by kernel_rfl)) (fun _ _ _ h => h) (Or.inl ⟨by rfl, ?_⟩) ?_ ?_
                rotate_left
                · intro w'
                  go_simp
                  with_reducible rfl
                rotate_left
                · simp only [Act.put, List.setIfInBounds_toArray, List.set_cons_zero, List.set_cons_succ, i64_w, i32_w]
                  rfl
                refine pure_ (i := 18) (N := some 43) (v := ?_) (a' := ?_) #[true, false, true, false, true, true, true, true, true, true, true, true, true, true, true, false, false, true, true, false, false, false] rfl rfl (any_of HT_.out (by kernel_rfl)) (fun _ _ _ h => h) (Or.inl ⟨by rfl, ?_⟩) ?_ ?_
                rotate_left
                · intro w'
                  go_simp
                  with_reducible rfl
                rotate_left
                · simp only [Act.put, List.setIfInBounds_toArray, List.set_cons_zero, List.set_cons_succ, i64_w, i32_w]
                  rfl
                refine join_ (σ := Nat) 1 #[true, true, true, true, true, true, true, true, true, true, true, true, true, true, true, true, true, true, true, true, true, false] (fun s_ => [(26, .int .u64 t192), (28, .int .u64 t193), (40, .int .u64 t194), (5, .pointer (some ⟨s_, 0, none⟩)), (41, .int .u16 (IntKind.u16.wrap (t194))), (44, .agg #[.int .u64 t192, .int .u64 t193, .int .u8 ((IntKind.u64.wrap (Int.tdiv t191 8192)) % 256), .bool ((Int.tmod (IntKind.u64.wrap (Int.tdiv t191 4096)) 2) == 1), .int .u16 (IntKind.u16.wrap (Int.tmod t191 4096)), .int .u16 (IntKind.u16.wrap (t194)), .string (a0.extract 18 a0.size)])]) (fun s_ w' => (w'.heap[gb190]? = some (.cells #[.int .u64 0, .int .u64 0, .int .u8 0, .bool false, .int .u16 0, .int .u16 0, .string (⟨#[]⟩ : ByteArray)] 32 (0, 0))) ∧ (w'.heap[s_]? = some (.cells #[.int .u64 0, .int .u64 0, .int .u8 0, .bool false, .int .u16 0, .int .u16 0, .string (⟨#[]⟩ : ByteArray)] 32 (0, 0))) ∧ (w.heap.size ≤ s_) ∧ (w.heap.size ≤ s_) ∧ (gb190 ≠ s_) ∧ (s_ ≠ gb190) ∧ (Below w.heap.size w w')) ?_ ?_
                rotate_left
                · intro hCont
                  refine two_ (i := 1) (j := 20) (Ni := some 26) (Nj := some 5) #[true, true, true, false, true, true, true, true, true, true, true, true, true, true, true, false, false, true, true, false, false, false] #[true, false, true, false, true, true, true, true, true, true, true, true, true, true, true, false, false, true, true, false, true, false] rfl rfl rfl rfl (two_of HT_.out (by kernel_rfl)) (by decide) (by decide) (fun K hK => ?_) (fun K hK => ?_)
                  · skip
                    refine goes_ Try.func32 (by kernel_rfl) rfl #[.string a0, .int .i64 0, .int .i64 6] (by rfl) rfl rfl (by (try simp only [List.map_toArray, List.map_cons, List.map_nil]); first | done | rfl | (simp only [List.length_drop, List.length_take]; rfl)) ?_
                    with_reducible refine (carouselref01_Get.calls kj7 a0 0 6 t192 _ A18.out).mono ?_
                    rintro e w26 ⟨rfl, hb⟩
                    refine ⟨_, rfl, ?_⟩
                    have n0_ := Aside0.mk (blk_below (g := gb190) (o := .cells #[.int .u64 0, .int .u64 0, .int .u8 0, .bool false, .int .u16 0, .int .u16 0, .string (⟨#[]⟩ : ByteArray)] 32 (0, 0)) (by (with_reducible repeat (first | refine blk_drewN ?_ _ | refine blk_drew ?_ | refine blk_alloc ?_ _)); exact BK190.out) hb)
                    have n1_ := Aside0.mk (below_step (by repeat (first | (with_reducible first | exact HB.out | apply below_alloc | apply pw_below_drewN | apply below_drew1 | refine below_set ?_ GE190.out) | exact HB.out)) hb)
                    clear BK190
                    clear HB
                    have BK190 := n0_
                    have HB := n1_
                    clear n0_ n1_
                    (try clear hb)
                    (try clear hb2)
                    (try clear hk)
                    (try clear hi)
                    refine hK.out _ _ trivial (fun hHeld => ?_)
                    clear hK K
                    refine norm_ (a' := ?_) ?_ ?_
                    rotate_left
                    · show Act.put _ (some 26) _ = _
                      simp only [Act.put, List.setIfInBounds_toArray, List.set_cons_zero, List.set_cons_succ, i64_w, i32_w]
                      rfl
                    refine two_ (i := 3) (j := 20) (Ni := some 28) (Nj := some 5) #[true, true, true, true, true, true, true, true, true, true, true, true, true, true, true, false, false, true, true, false, false, false] #[true, true, true, false, true, true, true, true, true, true, true, true, true, true, true, false, false, true, true, false, true, false] rfl rfl rfl rfl (two_of HT_.out (by kernel_rfl)) (by decide) (by decide) (fun K hK => ?_) (fun K hK => ?_)
                    · skip
                      refine goes_ Try.func32 (by kernel_rfl) rfl #[.string a0, .int .i64 6, .int .i64 6] (by rfl) rfl rfl (by (try simp only [List.map_toArray, List.map_cons, List.map_nil]); first | done | rfl | (simp only [List.length_drop, List.length_take]; rfl)) ?_
                      with_reducible refine (carouselref01_Get.calls kj7 a0 6 6 t193 _ A19.out).mono ?_
                      rintro e w27 ⟨rfl, hb⟩
                      refine ⟨_, rfl, ?_⟩
                      have n0_ := Aside0.mk (blk_below (g := gb190) (o := .cells #[.int .u64 0, .int .u64 0, .int .u8 0, .bool false, .int .u16 0, .int .u16 0, .string (⟨#[]⟩ : ByteArray)] 32 (0, 0)) (by (with_reducible repeat (first | refine blk_drewN ?_ _ | refine blk_drew ?_ | refine blk_alloc ?_ _)); exact BK190.out) hb)
                      have n1_ := Aside0.mk (below_step (by repeat (first | (with_reducible first | exact HB.out | apply below_alloc | apply pw_below_drewN | apply below_drew1 | refine below_set ?_ GE190.out) | exact HB.out)) hb)
                      clear BK190
                      clear HB
                      have BK190 := n0_
                      have HB := n1_
                      clear n0_ n1_
                      (try clear hb)
                      (try clear hb2)
                      (try clear hk)
                      (try clear hi)
                      refine hK.out _ _ trivial (fun hHeld => ?_)
                      clear hK K
                      refine norm_ (a' := ?_) ?_ ?_
                      rotate_left
                      · show Act.put _ (some 28) _ = _
                        simp only [Act.put, List.setIfInBounds_toArray, List.set_cons_zero, List.set_cons_succ, i64_w, i32_w]
                        rfl
                      refine two_ (i := 15) (j := 20) (Ni := some 40) (Nj := some 5) #[true, true, true, true, true, true, true, true, true, true, true, true, true, true, true, true, false, true, true, false, false, false] #[true, true, true, true, true, true, true, true, true, true, true, true, true, true, true, false, false, true, true, false, true, false] rfl rfl rfl rfl (two_of HT_.out (by kernel_rfl)) (by decide) (by decide) (fun K hK => ?_) (fun K hK => ?_)
                      · skip
                        refine goes_ Try.func32 (by kernel_rfl) rfl #[.string a0, .int .i64 16, .int .i64 2] (by rfl) rfl rfl (by (try simp only [List.map_toArray, List.map_cons, List.map_nil]); first | done | rfl | (simp only [List.length_drop, List.length_take]; rfl)) ?_
                        with_reducible refine (carouselref01_Get.calls kj7 a0 16 2 t194 _ A20.out).mono ?_
                        rintro e w28 ⟨rfl, hb⟩
                        refine ⟨_, rfl, ?_⟩
                        have n0_ := Aside0.mk (blk_below (g := gb190) (o := .cells #[.int .u64 0, .int .u64 0, .int .u8 0, .bool false, .int .u16 0, .int .u16 0, .string (⟨#[]⟩ : ByteArray)] 32 (0, 0)) (by (with_reducible repeat (first | refine blk_drewN ?_ _ | refine blk_drew ?_ | refine blk_alloc ?_ _)); exact BK190.out) hb)
                        have n1_ := Aside0.mk (below_step (by repeat (first | (with_reducible first | exact HB.out | apply below_alloc | apply pw_below_drewN | apply below_drew1 | refine below_set ?_ GE190.out) | exact HB.out)) hb)
                        clear BK190
                        clear HB
                        have BK190 := n0_
                        have HB := n1_
                        clear n0_ n1_
                        (try clear hb)
                        (try clear hb2)
                        (try clear hk)
                        (try clear hi)
                        refine hK.out _ _ trivial (fun hHeld => ?_)
                        clear hK K
                        refine norm_ (a' := ?_) ?_ ?_
                        rotate_left
                        · show Act.put _ (some 40) _ = _
                          simp only [Act.put, List.setIfInBounds_toArray, List.set_cons_zero, List.set_cons_succ, i64_w, i32_w]
                          rfl
                        refine pure_ (i := 16) (N := some 41) (v := ?_) (a' := ?_) #[true, true, true, true, true, true, true, true, true, true, true, true, true, true, true, true, true, true, true, false, false, false] rfl rfl (any_of HT_.out (by kernel_rfl)) (fun _ _ _ h => h) (Or.inl ⟨by rfl, ?_⟩) ?_ ?_
                        rotate_left
                        · intro w'
                          go_simp
                          with_reducible rfl
                        rotate_left
                        · simp only [Act.put, List.setIfInBounds_toArray, List.set_cons_zero, List.set_cons_succ, i64_w, i32_w]
                          rfl
                        refine pure_ (i := 19) (N := some 44) (v := ?_) (a' := ?_) #[true, true, true, true, true, true, true, true, true, true, true, true, true, true, true, true, true, true, true, true, false, false] rfl rfl (any_of HT_.out (by kernel_rfl)) (fun _ _ _ h => h) (Or.inl ⟨by rfl, ?_⟩) ?_ ?_
                        rotate_left
                        · intro w'
                          go_simp
                          with_reducible rfl
                        rotate_left
                        · simp only [Act.put, List.setIfInBounds_toArray, List.set_cons_zero, List.set_cons_succ, i64_w, i32_w]
                          rfl
                        refine one_ (i := 20) (N := some 5) #[true, true, true, true, true, true, true, true, true, true, true, true, true, true, true, true, true, true, true, true, true, false] rfl rfl (one_of HT_.out (by kernel_rfl)) (by decide) (fun K hK => ?_)
                        refine box_step ?hg (N := 5) ?hd (cs := #[.int .u64 0, .int .u64 0, .int .u8 0, .bool false, .int .u16 0, .int .u16 0, .string (⟨#[]⟩ : ByteArray)]) (t := 32) ?hr ?_; (case hd => rfl); (case hg => rfl); (case hr => first | (go_simp; done) | (go_simp; rfl))
                        intro gb195 hg w29 hbox hb
                        have n0_ := Aside0.mk (blk_below (g := gb190) (o := .cells #[.int .u64 0, .int .u64 0, .int .u8 0, .bool false, .int .u16 0, .int .u16 0, .string (⟨#[]⟩ : ByteArray)] 32 (0, 0)) (by (with_reducible repeat (first | refine blk_drewN ?_ _ | refine blk_drew ?_ | refine blk_alloc ?_ _)); exact BK190.out) hb)
                        have n1_ := Aside0.mk (below_step (by repeat (first | (with_reducible first | exact HB.out | apply below_alloc | apply pw_below_drewN | apply below_drew1 | refine below_set ?_ GE190.out) | exact HB.out)) hb)
                        have n2_ := Aside0.mk (hbox)
                        have n3_ := Aside0.mk ((by rw [hg]; exact (below_size (by repeat (first | (with_reducible first | exact HB.out | apply below_alloc | apply pw_below_drewN | apply below_drew1 | refine below_set ?_ GE190.out) | exact HB.out))) : w.heap.size ≤ gb195))
                        have n4_ := Aside0.mk ((by rw [hg]; exact (below_size (by repeat (first | (with_reducible first | exact HB.out | apply below_alloc | apply pw_below_drewN | apply below_drew1 | refine below_set ?_ GE190.out) | exact HB.out))) : w.heap.size ≤ gb195))
                        have n5_ := Aside0.mk ((by rw [hg]; exact Nat.ne_of_lt (blk_lt (g := gb190) (o := .cells #[.int .u64 0, .int .u64 0, .int .u8 0, .bool false, .int .u16 0, .int .u16 0, .string (⟨#[]⟩ : ByteArray)] 32 (0, 0)) (by (with_reducible repeat (first | refine blk_drewN ?_ _ | refine blk_drew ?_ | refine blk_alloc ?_ _)); exact BK190.out)) : gb190 ≠ gb195))
                        have n6_ := Aside0.mk ((by rw [hg]; exact Nat.ne_of_gt (blk_lt (g := gb190) (o := .cells #[.int .u64 0, .int .u64 0, .int .u8 0, .bool false, .int .u16 0, .int .u16 0, .string (⟨#[]⟩ : ByteArray)] 32 (0, 0)) (by (with_reducible repeat (first | refine blk_drewN ?_ _ | refine blk_drew ?_ | refine blk_alloc ?_ _)); exact BK190.out)) : gb195 ≠ gb190))
                        clear BK190
                        clear HB
                        have BK190 := n0_
                        have HB := n1_
                        have BK195 := n2_
                        have GW195 := n3_
                        have GE195 := n4_
                        have NB190_195 := n5_
                        have NB195_190 := n6_
                        clear n0_ n1_ n2_ n3_ n4_ n5_ n6_
                        clear hb hbox hg
                        refine hK.out _ _ trivial (fun hHeld => ?_)
                        clear hK K
                        refine norm_ (a' := ?_) ?_ ?_
                        rotate_left
                        · show Act.put _ (some 5) _ = _
                          simp only [Act.put, List.setIfInBounds_toArray, List.set_cons_zero, List.set_cons_succ, i64_w, i32_w]
                          rfl
                        exact norm_ (by first | (simp only [putAll, Act.put, List.setIfInBounds_toArray, List.set_cons_zero, List.set_cons_succ]; done) | (simp only [putAll, Act.put, List.setIfInBounds_toArray, List.set_cons_zero, List.set_cons_succ]; rfl)) (hCont (gb195) _ ⟨(by (with_reducible repeat (first | refine blk_drewN ?_ _ | refine blk_drew ?_ | refine blk_alloc ?_ _)); exact BK190.out), (by (with_reducible repeat (first | refine blk_drewN ?_ _ | refine blk_drew ?_ | refine blk_alloc ?_ _)); exact BK195.out), GW195.out, GE195.out, NB190_195.out, NB195_190.out, (by repeat (first | (with_reducible first | exact HB.out | apply below_alloc | apply pw_below_drewN | apply below_drew1 | refine below_set ?_ GE190.out | refine below_set ?_ GE195.out) | exact HB.out))⟩)
                      · skip
                        refine box_step ?hg (N := 5) ?hd (cs := #[.int .u64 0, .int .u64 0, .int .u8 0, .bool false, .int .u16 0, .int .u16 0, .string (⟨#[]⟩ : ByteArray)]) (t := 32) ?hr ?_; (case hd => rfl); (case hg => rfl); (case hr => first | (go_simp; done) | (go_simp; rfl))
                        intro gb195 hg w28 hbox hb
                        have n0_ := Aside0.mk (blk_below (g := gb190) (o := .cells #[.int .u64 0, .int .u64 0, .int .u8 0, .bool false, .int .u16 0, .int .u16 0, .string (⟨#[]⟩ : ByteArray)] 32 (0, 0)) (by (with_reducible repeat (first | refine blk_drewN ?_ _ | refine blk_drew ?_ | refine blk_alloc ?_ _)); exact BK190.out) hb)
                        have n1_ := Aside0.mk (below_step (by repeat (first | (with_reducible first | exact HB.out | apply below_alloc | apply pw_below_drewN | apply below_drew1 | refine below_set ?_ GE190.out) | exact HB.out)) hb)
                        have n2_ := Aside0.mk (hbox)
                        have n3_ := Aside0.mk ((by rw [hg]; exact (below_size (by repeat (first | (with_reducible first | exact HB.out | apply below_alloc | apply pw_below_drewN | apply below_drew1 | refine below_set ?_ GE190.out) | exact HB.out))) : w.heap.size ≤ gb195))
                        have n4_ := Aside0.mk ((by rw [hg]; exact (below_size (by repeat (first | (with_reducible first | exact HB.out | apply below_alloc | apply pw_below_drewN | apply below_drew1 | refine below_set ?_ GE190.out) | exact HB.out))) : w.heap.size ≤ gb195))
                        have n5_ := Aside0.mk ((by rw [hg]; exact Nat.ne_of_lt (blk_lt (g := gb190) (o := .cells #[.int .u64 0, .int .u64 0, .int .u8 0, .bool false, .int .u16 0, .int .u16 0, .string (⟨#[]⟩ : ByteArray)] 32 (0, 0)) (by (with_reducible repeat (first | refine blk_drewN ?_ _ | refine blk_drew ?_ | refine blk_alloc ?_ _)); exact BK190.out)) : gb190 ≠ gb195))
                        have n6_ := Aside0.mk ((by rw [hg]; exact Nat.ne_of_gt (blk_lt (g := gb190) (o := .cells #[.int .u64 0, .int .u64 0, .int .u8 0, .bool false, .int .u16 0, .int .u16 0, .string (⟨#[]⟩ : ByteArray)] 32 (0, 0)) (by (with_reducible repeat (first | refine blk_drewN ?_ _ | refine blk_drew ?_ | refine blk_alloc ?_ _)); exact BK190.out)) : gb195 ≠ gb190))
                        clear BK190
                        clear HB
                        have BK190 := n0_
                        have HB := n1_
                        have BK195 := n2_
                        have GW195 := n3_
                        have GE195 := n4_
                        have NB190_195 := n5_
                        have NB195_190 := n6_
                        clear n0_ n1_ n2_ n3_ n4_ n5_ n6_
                        clear hb hbox hg
                        refine hK.out _ _ trivial (fun hHeld => ?_)
                        clear hK K
                        refine norm_ (a' := ?_) ?_ ?_
                        rotate_left
                        · show Act.put _ (some 5) _ = _
                          simp only [Act.put, List.setIfInBounds_toArray, List.set_cons_zero, List.set_cons_succ, i64_w, i32_w]
                          rfl
                        refine one_ (i := 15) (N := some 40) #[true, true, true, true, true, true, true, true, true, true, true, true, true, true, true, true, false, true, true, false, true, false] rfl rfl (one_of HT_.out (by kernel_rfl)) (by decide) (fun K hK => ?_)
                        refine goes_ Try.func32 (by kernel_rfl) rfl #[.string a0, .int .i64 16, .int .i64 2] (by rfl) rfl rfl (by (try simp only [List.map_toArray, List.map_cons, List.map_nil]); first | done | rfl | (simp only [List.length_drop, List.length_take]; rfl)) ?_
                        with_reducible refine (carouselref01_Get.calls kj7 a0 16 2 t194 _ A20.out).mono ?_
                        rintro e w29 ⟨rfl, hb⟩
                        refine ⟨_, rfl, ?_⟩
                        have n0_ := Aside0.mk (blk_below (g := gb190) (o := .cells #[.int .u64 0, .int .u64 0, .int .u8 0, .bool false, .int .u16 0, .int .u16 0, .string (⟨#[]⟩ : ByteArray)] 32 (0, 0)) (by (with_reducible repeat (first | refine blk_drewN ?_ _ | refine blk_drew ?_ | refine blk_alloc ?_ _)); exact BK190.out) hb)
                        have n1_ := Aside0.mk (blk_below (g := gb195) (o := .cells #[.int .u64 0, .int .u64 0, .int .u8 0, .bool false, .int .u16 0, .int .u16 0, .string (⟨#[]⟩ : ByteArray)] 32 (0, 0)) (by (with_reducible repeat (first | refine blk_drewN ?_ _ | refine blk_drew ?_ | refine blk_alloc ?_ _)); exact BK195.out) hb)
                        have n2_ := Aside0.mk (below_step (by repeat (first | (with_reducible first | exact HB.out | apply below_alloc | apply pw_below_drewN | apply below_drew1 | refine below_set ?_ GE190.out | refine below_set ?_ GE195.out) | exact HB.out)) hb)
                        clear BK190
                        clear BK195
                        clear HB
                        have BK190 := n0_
                        have BK195 := n1_
                        have HB := n2_
                        clear n0_ n1_ n2_
                        (try clear hb)
                        (try clear hb2)
                        (try clear hk)
                        (try clear hi)
                        refine hK.out _ _ trivial (fun hHeld => ?_)
                        clear hK K
                        refine norm_ (a' := ?_) ?_ ?_
                        rotate_left
                        · show Act.put _ (some 40) _ = _
                          simp only [Act.put, List.setIfInBounds_toArray, List.set_cons_zero, List.set_cons_succ, i64_w, i32_w]
                          rfl
                        refine pure_ (i := 16) (N := some 41) (v := ?_) (a' := ?_) #[true, true, true, true, true, true, true, true, true, true, true, true, true, true, true, true, true, true, true, false, true, false] rfl rfl (any_of HT_.out (by kernel_rfl)) (fun _ _ _ h => h) (Or.inl ⟨by rfl, ?_⟩) ?_ ?_
                        rotate_left
                        · intro w'
                          go_simp
                          with_reducible rfl
                        rotate_left
                        · simp only [Act.put, List.setIfInBounds_toArray, List.set_cons_zero, List.set_cons_succ, i64_w, i32_w]
                          rfl
                        refine pure_ (i := 19) (N := some 44) (v := ?_) (a' := ?_) #[true, true, true, true, true, true, true, true, true, true, true, true, true, true, true, true, true, true, true, true, true, false] rfl rfl (any_of HT_.out (by kernel_rfl)) (fun _ _ _ h => h) (Or.inl ⟨by rfl, ?_⟩) ?_ ?_
                        rotate_left
                        · intro w'
                          go_simp
                          with_reducible rfl
                        rotate_left
                        · simp only [Act.put, List.setIfInBounds_toArray, List.set_cons_zero, List.set_cons_succ, i64_w, i32_w]
                          rfl
                        exact norm_ (by first | (simp only [putAll, Act.put, List.setIfInBounds_toArray, List.set_cons_zero, List.set_cons_succ]; done) | (simp only [putAll, Act.put, List.setIfInBounds_toArray, List.set_cons_zero, List.set_cons_succ]; rfl)) (hCont (gb195) _ ⟨(by (with_reducible repeat (first | refine blk_drewN ?_ _ | refine blk_drew ?_ | refine blk_alloc ?_ _)); exact BK190.out), (by (with_reducible repeat (first | refine blk_drewN ?_ _ | refine blk_drew ?_ | refine blk_alloc ?_ _)); exact BK195.out), GW195.out, GE195.out, NB190_195.out, NB195_190.out, (by repeat (first | (with_reducible first | exact HB.out | apply below_alloc | apply pw_below_drewN | apply below_drew1 | refine below_set ?_ GE190.out | refine below_set ?_ GE195.out) | exact HB.out))⟩)
                    · skip
                      refine box_step ?hg (N := 5) ?hd (cs := #[.int .u64 0, .int .u64 0, .int .u8 0, .bool false, .int .u16 0, .int .u16 0, .string (⟨#[]⟩ : ByteArray)]) (t := 32) ?hr ?_; (case hd => rfl); (case hg => rfl); (case hr => first | (go_simp; done) | (go_simp; rfl))
                      intro gb195 hg w27 hbox hb
                      have n0_ := Aside0.mk (blk_below (g := gb190) (o := .cells #[.int .u64 0, .int .u64 0, .int .u8 0, .bool false, .int .u16 0, .int .u16 0, .string (⟨#[]⟩ : ByteArray)] 32 (0, 0)) (by (with_reducible repeat (first | refine blk_drewN ?_ _ | refine blk_drew ?_ | refine blk_alloc ?_ _)); exact BK190.out) hb)
                      have n1_ := Aside0.mk (below_step (by repeat (first | (with_reducible first | exact HB.out | apply below_alloc | apply pw_below_drewN | apply below_drew1 | refine below_set ?_ GE190.out) | exact HB.out)) hb)
                      have n2_ := Aside0.mk (hbox)
                      have n3_ := Aside0.mk ((by rw [hg]; exact (below_size (by repeat (first | (with_reducible first | exact HB.out | apply below_alloc | apply pw_below_drewN | apply below_drew1 | refine below_set ?_ GE190.out) | exact HB.out))) : w.heap.size ≤ gb195))
                      have n4_ := Aside0.mk ((by rw [hg]; exact (below_size (by repeat (first | (with_reducible first | exact HB.out | apply below_alloc | apply pw_below_drewN | apply below_drew1 | refine below_set ?_ GE190.out) | exact HB.out))) : w.heap.size ≤ gb195))
                      have n5_ := Aside0.mk ((by rw [hg]; exact Nat.ne_of_lt (blk_lt (g := gb190) (o := .cells #[.int .u64 0, .int .u64 0, .int .u8 0, .bool false, .int .u16 0, .int .u16 0, .string (⟨#[]⟩ : ByteArray)] 32 (0, 0)) (by (with_reducible repeat (first | refine blk_drewN ?_ _ | refine blk_drew ?_ | refine blk_alloc ?_ _)); exact BK190.out)) : gb190 ≠ gb195))
                      have n6_ := Aside0.mk ((by rw [hg]; exact Nat.ne_of_gt (blk_lt (g := gb190) (o := .cells #[.int .u64 0, .int .u64 0, .int .u8 0, .bool false, .int .u16 0, .int .u16 0, .string (⟨#[]⟩ : ByteArray)] 32 (0, 0)) (by (with_reducible repeat (first | refine blk_drewN ?_ _ | refine blk_drew ?_ | refine blk_alloc ?_ _)); exact BK190.out)) : gb195 ≠ gb190))
                      clear BK190
                      clear HB
                      have BK190 := n0_
                      have HB := n1_
                      have BK195 := n2_
                      have GW195 := n3_
                      have GE195 := n4_
                      have NB190_195 := n5_
                      have NB195_190 := n6_
                      clear n0_ n1_ n2_ n3_ n4_ n5_ n6_
                      clear hb hbox hg
                      refine hK.out _ _ trivial (fun hHeld => ?_)
                      clear hK K
                      refine norm_ (a' := ?_) ?_ ?_
                      rotate_left
                      · show Act.put _ (some 5) _ = _
                        simp only [Act.put, List.setIfInBounds_toArray, List.set_cons_zero, List.set_cons_succ, i64_w, i32_w]
                        rfl
                      refine one_ (i := 3) (N := some 28) #[true, true, true, true, true, true, true, true, true, true, true, true, true, true, true, false, false, true, true, false, true, false] rfl rfl (one_of HT_.out (by kernel_rfl)) (by decide) (fun K hK => ?_)
                      refine goes_ Try.func32 (by kernel_rfl) rfl #[.string a0, .int .i64 6, .int .i64 6] (by rfl) rfl rfl (by (try simp only [List.map_toArray, List.map_cons, List.map_nil]); first | done | rfl | (simp only [List.length_drop, List.length_take]; rfl)) ?_
                      with_reducible refine (carouselref01_Get.calls kj7 a0 6 6 t193 _ A19.out).mono ?_
                      rintro e w28 ⟨rfl, hb⟩
                      refine ⟨_, rfl, ?_⟩
                      have n0_ := Aside0.mk (blk_below (g := gb190) (o := .cells #[.int .u64 0, .int .u64 0, .int .u8 0, .bool false, .int .u16 0, .int .u16 0, .string (⟨#[]⟩ : ByteArray)] 32 (0, 0)) (by (with_reducible repeat (first | refine blk_drewN ?_ _ | refine blk_drew ?_ | refine blk_alloc ?_ _)); exact BK190.out) hb)
                      have n1_ := Aside0.mk (blk_below (g := gb195) (o := .cells #[.int .u64 0, .int .u64 0, .int .u8 0, .bool false, .int .u16 0, .int .u16 0, .string (⟨#[]⟩ : ByteArray)] 32 (0, 0)) (by (with_reducible repeat (first | refine blk_drewN ?_ _ | refine blk_drew ?_ | refine blk_alloc ?_ _)); exact BK195.out) hb)
                      have n2_ := Aside0.mk (below_step (by repeat (first | (with_reducible first | exact HB.out | apply below_alloc | apply pw_below_drewN | apply below_drew1 | refine below_set ?_ GE190.out | refine below_set ?_ GE195.out) | exact HB.out)) hb)
                      clear BK190
                      clear BK195
                      clear HB
                      have BK190 := n0_
                      have BK195 := n1_
                      have HB := n2_
                      clear n0_ n1_ n2_
                      (try clear hb)
                      (try clear hb2)
                      (try clear hk)
                      (try clear hi)
                      refine hK.out _ _ trivial (fun hHeld => ?_)
                      clear hK K
                      refine norm_ (a' := ?_) ?_ ?_
                      rotate_left
                      · show Act.put _ (some 28) _ = _
                        simp only [Act.put, List.setIfInBounds_toArray, List.set_cons_zero, List.set_cons_succ, i64_w, i32_w]
                        rfl
                      refine one_ (i := 15) (N := some 40) #[true, true, true, true, true, true, true, true, true, true, true, true, true, true, true, true, false, true, true, false, true, false] rfl rfl (one_of HT_.out (by kernel_rfl)) (by decide) (fun K hK => ?_)
                      refine goes_ Try.func32 (by kernel_rfl) rfl #[.string a0, .int .i64 16, .int .i64 2] (by rfl) rfl rfl (by (try simp only [List.map_toArray, List.map_cons, List.map_nil]); first | done | rfl | (simp only [List.length_drop, List.length_take]; rfl)) ?_
                      with_reducible refine (carouselref01_Get.calls kj7 a0 16 2 t194 _ A20.out).mono ?_
                      rintro e w29 ⟨rfl, hb⟩
                      refine ⟨_, rfl, ?_⟩
                      have n0_ := Aside0.mk (blk_below (g := gb190) (o := .cells #[.int .u64 0, .int .u64 0, .int .u8 0, .bool false, .int .u16 0, .int .u16 0, .string (⟨#[]⟩ : ByteArray)] 32 (0, 0)) (by (with_reducible repeat (first | refine blk_drewN ?_ _ | refine blk_drew ?_ | refine blk_alloc ?_ _)); exact BK190.out) hb)
                      have n1_ := Aside0.mk (blk_below (g := gb195) (o := .cells #[.int .u64 0, .int .u64 0, .int .u8 0, .bool false, .int .u16 0, .int .u16 0, .string (⟨#[]⟩ : ByteArray)] 32 (0, 0)) (by (with_reducible repeat (first | refine blk_drewN ?_ _ | refine blk_drew ?_ | refine blk_alloc ?_ _)); exact BK195.out) hb)
                      have n2_ := Aside0.mk (below_step (by repeat (first | (with_reducible first | exact HB.out | apply below_alloc | apply pw_below_drewN | apply below_drew1 | refine below_set ?_ GE190.out | refine below_set ?_ GE195.out) | exact HB.out)) hb)
                      clear BK190
                      clear BK195
                      clear HB
                      have BK190 := n0_
                      have BK195 := n1_
                      have HB := n2_
                      clear n0_ n1_ n2_
                      (try clear hb)
                      (try clear hb2)
                      (try clear hk)
                      (try clear hi)
                      refine hK.out _ _ trivial (fun hHeld => ?_)
                      clear hK K
                      refine norm_ (a' := ?_) ?_ ?_
                      rotate_left
                      · show Act.put _ (some 40) _ = _
                        simp only [Act.put, List.setIfInBounds_toArray, List.set_cons_zero, List.set_cons_succ, i64_w, i32_w]
                        rfl
                      refine pure_ (i := 16) (N := some 41) (v := ?_) (a' := ?_) #[true, true, true, true, true, true, true, true, true, true, true, true, true, true, true, true, true, true, true, false, true, false] rfl rfl (any_of HT_.out (by kernel_rfl)) (fun _ _ _ h => h) (Or.inl ⟨by rfl, ?_⟩) ?_ ?_
                      rotate_left
                      · intro w'
                        go_simp
                        with_reducible rfl
                      rotate_left
                      · simp only [Act.put, List.setIfInBounds_toArray, List.set_cons_zero, List.set_cons_succ, i64_w, i32_w]
                        rfl
                      refine pure_ (i := 19) (N := some 44) (v := ?_) (a' := ?_) #[true, true, true, true, true, true, true, true, true, true, true, true, true, true, true, true, true, true, true, true, true, false] rfl rfl (any_of HT_.out (by kernel_rfl)) (fun _ _ _ h => h) (Or.inl ⟨by rfl, ?_⟩) ?_ ?_
                      rotate_left
                      · intro w'
                        go_simp
                        with_reducible rfl
                      rotate_left
                      · simp only [Act.put, List.setIfInBounds_toArray, List.set_cons_zero, List.set_cons_succ, i64_w, i32_w]
                        rfl
                      exact norm_ (by first | (simp only [putAll, Act.put, List.setIfInBounds_toArray, List.set_cons_zero, List.set_cons_succ]; done) | (simp only [putAll, Act.put, List.setIfInBounds_toArray, List.set_cons_zero, List.set_cons_succ]; rfl)) (hCont (gb195) _ ⟨(by (with_reducible repeat (first | refine blk_drewN ?_ _ | refine blk_drew ?_ | refine blk_alloc ?_ _)); exact BK190.out), (by (with_reducible repeat (first | refine blk_drewN ?_ _ | refine blk_drew ?_ | refine blk_alloc ?_ _)); exact BK195.out), GW195.out, GE195.out, NB190_195.out, NB195_190.out, (by repeat (first | (with_reducible first | exact HB.out | apply below_alloc | apply pw_below_drewN | apply below_drew1 | refine below_set ?_ GE190.out | refine below_set ?_ GE195.out) | exact HB.out))⟩)
                  · skip
                    refine box_step ?hg (N := 5) ?hd (cs := #[.int .u64 0, .int .u64 0, .int .u8 0, .bool false, .int .u16 0, .int .u16 0, .string (⟨#[]⟩ : ByteArray)]) (t := 32) ?hr ?_; (case hd => rfl); (case hg => rfl); (case hr => first | (go_simp; done) | (go_simp; rfl))
                    intro gb195 hg w26 hbox hb
                    have n0_ := Aside0.mk (blk_below (g := gb190) (o := .cells #[.int .u64 0, .int .u64 0, .int .u8 0, .bool false, .int .u16 0, .int .u16 0, .string (⟨#[]⟩ : ByteArray)] 32 (0, 0)) (by (with_reducible repeat (first | refine blk_drewN ?_ _ | refine blk_drew ?_ | refine blk_alloc ?_ _)); exact BK190.out) hb)
                    have n1_ := Aside0.mk (below_step (by repeat (first | (with_reducible first | exact HB.out | apply below_alloc | apply pw_below_drewN | apply below_drew1 | refine below_set ?_ GE190.out) | exact HB.out)) hb)
                    have n2_ := Aside0.mk (hbox)
                    have n3_ := Aside0.mk ((by rw [hg]; exact (below_size (by repeat (first | (with_reducible first | exact HB.out | apply below_alloc | apply pw_below_drewN | apply below_drew1 | refine below_set ?_ GE190.out) | exact HB.out))) : w.heap.size ≤ gb195))
                    have n4_ := Aside0.mk ((by rw [hg]; exact (below_size (by repeat (first | (with_reducible first | exact HB.out | apply below_alloc | apply pw_below_drewN | apply below_drew1 | refine below_set ?_ GE190.out) | exact HB.out))) : w.heap.size ≤ gb195))
                    have n5_ := Aside0.mk ((by rw [hg]; exact Nat.ne_of_lt (blk_lt (g := gb190) (o := .cells #[.int .u64 0, .int .u64 0, .int .u8 0, .bool false, .int .u16 0, .int .u16 0, .string (⟨#[]⟩ : ByteArray)] 32 (0, 0)) (by (with_reducible repeat (first | refine blk_drewN ?_ _ | refine blk_drew ?_ | refine blk_alloc ?_ _)); exact BK190.out)) : gb190 ≠ gb195))
                    have n6_ := Aside0.mk ((by rw [hg]; exact Nat.ne_of_gt (blk_lt (g := gb190) (o := .cells #[.int .u64 0, .int .u64 0, .int .u8 0, .bool false, .int .u16 0, .int .u16 0, .string (⟨#[]⟩ : ByteArray)] 32 (0, 0)) (by (with_reducible repeat (first | refine blk_drewN ?_ _ | refine blk_drew ?_ | refine blk_alloc ?_ _)); exact BK190.out)) : gb195 ≠ gb190))
                    clear BK190
                    clear HB
                    have BK190 := n0_
                    have HB := n1_
                    have BK195 := n2_
                    have GW195 := n3_
                    have GE195 := n4_
                    have NB190_195 := n5_
                    have NB195_190 := n6_
                    clear n0_ n1_ n2_ n3_ n4_ n5_ n6_
                    clear hb hbox hg
                    refine hK.out _ _ trivial (fun hHeld => ?_)
                    clear hK K
                    refine norm_ (a' := ?_) ?_ ?_
                    rotate_left
                    · show Act.put _ (some 5) _ = _
                      simp only [Act.put, List.setIfInBounds_toArray, List.set_cons_zero, List.set_cons_succ, i64_w, i32_w]
                      rfl
                    refine one_ (i := 1) (N := some 26) #[true, true, true, false, true, true, true, true, true, true, true, true, true, true, true, false, false, true, true, false, true, false] rfl rfl (one_of HT_.out (by kernel_rfl)) (by decide) (fun K hK => ?_)
                    refine goes_ Try.func32 (by kernel_rfl) rfl #[.string a0, .int .i64 0, .int .i64 6] (by rfl) rfl rfl (by (try simp only [List.map_toArray, List.map_cons, List.map_nil]); first | done | rfl | (simp only [List.length_drop, List.length_take]; rfl)) ?_
                    with_reducible refine (carouselref01_Get.calls kj7 a0 0 6 t192 _ A18.out).mono ?_
                    rintro e w27 ⟨rfl, hb⟩
                    refine ⟨_, rfl, ?_⟩
                    have n0_ := Aside0.mk (blk_below (g := gb190) (o := .cells #[.int .u64 0, .int .u64 0, .int .u8 0, .bool false, .int .u16 0, .int .u16 0, .string (⟨#[]⟩ : ByteArray)] 32 (0, 0)) (by (with_reducible repeat (first | refine blk_drewN ?_ _ | refine blk_drew ?_ | refine blk_alloc ?_ _)); exact BK190.out) hb)
                    have n1_ := Aside0.mk (blk_below (g := gb195) (o := .cells #[.int .u64 0, .int .u64 0, .int .u8 0, .bool false, .int .u16 0, .int .u16 0, .string (⟨#[]⟩ : ByteArray)] 32 (0, 0)) (by (with_reducible repeat (first | refine blk_drewN ?_ _ | refine blk_drew ?_ | refine blk_alloc ?_ _)); exact BK195.out) hb)
                    have n2_ := Aside0.mk (below_step (by repeat (first | (with_reducible first | exact HB.out | apply below_alloc | apply pw_below_drewN | apply below_drew1 | refine below_set ?_ GE190.out | refine below_set ?_ GE195.out) | exact HB.out)) hb)
                    clear BK190
                    clear BK195
                    clear HB
                    have BK190 := n0_
                    have BK195 := n1_
                    have HB := n2_
                    clear n0_ n1_ n2_
                    (try clear hb)
                    (try clear hb2)
                    (try clear hk)
                    (try clear hi)
                    refine hK.out _ _ trivial (fun hHeld => ?_)
                    clear hK K
                    refine norm_ (a' := ?_) ?_ ?_
                    rotate_left
                    · show Act.put _ (some 26) _ = _
                      simp only [Act.put, List.setIfInBounds_toArray, List.set_cons_zero, List.set_cons_succ, i64_w, i32_w]
                      rfl
                    refine one_ (i := 3) (N := some 28) #[true, true, true, true, true, true, true, true, true, true, true, true, true, true, true, false, false, true, true, false, true, false] rfl rfl (one_of HT_.out (by kernel_rfl)) (by decide) (fun K hK => ?_)
                    refine goes_ Try.func32 (by kernel_rfl) rfl #[.string a0, .int .i64 6, .int .i64 6] (by rfl) rfl rfl (by (try simp only [List.map_toArray, List.map_cons, List.map_nil]); first | done | rfl | (simp only [List.length_drop, List.length_take]; rfl)) ?_
                    with_reducible refine (carouselref01_Get.calls kj7 a0 6 6 t193 _ A19.out).mono ?_
                    rintro e w28 ⟨rfl, hb⟩
                    refine ⟨_, rfl, ?_⟩
                    have n0_ := Aside0.mk (blk_below (g := gb190) (o := .cells #[.int .u64 0, .int .u64 0, .int .u8 0, .bool false, .int .u16 0, .int .u16 0, .string (⟨#[]⟩ : ByteArray)] 32 (0, 0)) (by (with_reducible repeat (first | refine blk_drewN ?_ _ | refine blk_drew ?_ | refine blk_alloc ?_ _)); exact BK190.out) hb)
                    have n1_ := Aside0.mk (blk_below (g := gb195) (o := .cells #[.int .u64 0, .int .u64 0, .int .u8 0, .bool false, .int .u16 0, .int .u16 0, .string (⟨#[]⟩ : ByteArray)] 32 (0, 0)) (by (with_reducible repeat (first | refine blk_drewN ?_ _ | refine blk_drew ?_ | refine blk_alloc ?_ _)); exact BK195.out) hb)
                    have n2_ := Aside0.mk (below_step (by repeat (first | (with_reducible first | exact HB.out | apply below_alloc | apply pw_below_drewN | apply below_drew1 | refine below_set ?_ GE190.out | refine below_set ?_ GE195.out) | exact HB.out)) hb)
                    clear BK190
                    clear BK195
                    clear HB
                    have BK190 := n0_
                    have BK195 := n1_
                    have HB := n2_
                    clear n0_ n1_ n2_
                    (try clear hb)
                    (try clear hb2)
                    (try clear hk)
                    (try clear hi)
                    refine hK.out _ _ trivial (fun hHeld => ?_)
                    clear hK K
                    refine norm_ (a' := ?_) ?_ ?_
                    rotate_left
                    · show Act.put _ (some 28) _ = _
                      simp only [Act.put, List.setIfInBounds_toArray, List.set_cons_zero, List.set_cons_succ, i64_w, i32_w]
                      rfl
                    refine one_ (i := 15) (N := some 40) #[true, true, true, true, true, true, true, true, true, true, true, true, true, true, true, true, false, true, true, false, true, false] rfl rfl (one_of HT_.out (by kernel_rfl)) (by decide) (fun K hK => ?_)
                    refine goes_ Try.func32 (by kernel_rfl) rfl #[.string a0, .int .i64 16, .int .i64 2] (by rfl) rfl rfl (by (try simp only [List.map_toArray, List.map_cons, List.map_nil]); first | done | rfl | (simp only [List.length_drop, List.length_take]; rfl)) ?_
                    with_reducible refine (carouselref01_Get.calls kj7 a0 16 2 t194 _ A20.out).mono ?_
                    rintro e w29 ⟨rfl, hb⟩
                    refine ⟨_, rfl, ?_⟩
                    have n0_ := Aside0.mk (blk_below (g := gb190) (o := .cells #[.int .u64 0, .int .u64 0, .int .u8 0, .bool false, .int .u16 0, .int .u16 0, .string (⟨#[]⟩ : ByteArray)] 32 (0, 0)) (by (with_reducible repeat (first | refine blk_drewN ?_ _ | refine blk_drew ?_ | refine blk_alloc ?_ _)); exact BK190.out) hb)
                    have n1_ := Aside0.mk (blk_below (g := gb195) (o := .cells #[.int .u64 0, .int .u64 0, .int .u8 0, .bool false, .int .u16 0, .int .u16 0, .string (⟨#[]⟩ : ByteArray)] 32 (0, 0)) (by (with_reducible repeat (first | refine blk_drewN ?_ _ | refine blk_drew ?_ | refine blk_alloc ?_ _)); exact BK195.out) hb)
                    have n2_ := Aside0.mk (below_step (by repeat (first | (with_reducible first | exact HB.out | apply below_alloc | apply pw_below_drewN | apply below_drew1 | refine below_set ?_ GE190.out | refine below_set ?_ GE195.out) | exact HB.out)) hb)
                    clear BK190
                    clear BK195
                    clear HB
                    have BK190 := n0_
                    have BK195 := n1_
                    have HB := n2_
                    clear n0_ n1_ n2_
                    (try clear hb)
                    (try clear hb2)
                    (try clear hk)
                    (try clear hi)
                    refine hK.out _ _ trivial (fun hHeld => ?_)
                    clear hK K
                    refine norm_ (a' := ?_) ?_ ?_
                    rotate_left
                    · show Act.put _ (some 40) _ = _
                      simp only [Act.put, List.setIfInBounds_toArray, List.set_cons_zero, List.set_cons_succ, i64_w, i32_w]
                      rfl
                    refine pure_ (i := 16) (N := some 41) (v := ?_) (a' := ?_) #[true, true, true, true, true, true, true, true, true, true, true, true, true, true, true, true, true, true, true, false, true, false] rfl rfl (any_of HT_.out (by kernel_rfl)) (fun _ _ _ h => h) (Or.inl ⟨by rfl, ?_⟩) ?_ ?_
                    rotate_left
                    · intro w'
                      go_simp
                      with_reducible rfl
                    rotate_left
                    · simp only [Act.put, List.setIfInBounds_toArray, List.set_cons_zero, List.set_cons_succ, i64_w, i32_w]
                      rfl
                    refine pure_ (i := 19) (N := some 44) (v := ?_) (a' := ?_) #[true, true, true, true, true, true, true, true, true, true, true, true, true, true, true, true, true, true, true, true, true, false] rfl rfl (any_of HT_.out (by kernel_rfl)) (fun _ _ _ h => h) (Or.inl ⟨by rfl, ?_⟩) ?_ ?_
                    rotate_left
                    · intro w'
                      go_simp
                      with_reducible rfl
                    rotate_left
                    · simp only [Act.put, List.setIfInBounds_toArray, List.set_cons_zero, List.set_cons_succ, i64_w, i32_w]
                      rfl
                    exact norm_ (by first | (simp only [putAll, Act.put, List.setIfInBounds_toArray, List.set_cons_zero, List.set_cons_succ]; done) | (simp only [putAll, Act.put, List.setIfInBounds_toArray, List.set_cons_zero, List.set_cons_succ]; rfl)) (hCont (gb195) _ ⟨(by (with_reducible repeat (first | refine blk_drewN ?_ _ | refine blk_drew ?_ | refine blk_alloc ?_ _)); exact BK190.out), (by (with_reducible repeat (first | refine blk_drewN ?_ _ | refine blk_drew ?_ | refine blk_alloc ?_ _)); exact BK195.out), GW195.out, GE195.out, NB190_195.out, NB195_190.out, (by repeat (first | (with_reducible first | exact HB.out | apply below_alloc | apply pw_below_drewN | apply below_drew1 | refine below_set ?_ GE190.out | refine below_set ?_ GE195.out) | exact HB.out))⟩)
                rintro gb195 w30 ⟨h0_, h1_, h2_, h3_, h4_, h5_, h6_⟩
                have n0_ : Aside0 (w30.heap[gb190]? = some (.cells #[.int .u64 0, .int .u64 0, .int .u8 0, .bool false, .int .u16 0, .int .u16 0, .string (⟨#[]⟩ : ByteArray)] 32 (0, 0))) := ⟨h0_⟩
                have n1_ : Aside0 (w30.heap[gb195]? = some (.cells #[.int .u64 0, .int .u64 0, .int .u8 0, .bool false, .int .u16 0, .int .u16 0, .string (⟨#[]⟩ : ByteArray)] 32 (0, 0))) := ⟨h1_⟩
                have n2_ : Aside0 (w.heap.size ≤ gb195) := ⟨h2_⟩
                have n3_ : Aside0 (w.heap.size ≤ gb195) := ⟨h3_⟩
                have n4_ : Aside0 (gb190 ≠ gb195) := ⟨h4_⟩
                have n5_ : Aside0 (gb195 ≠ gb190) := ⟨h5_⟩
                have n6_ : Aside0 (Below w.heap.size w w30) := ⟨h6_⟩
                clear BK190
                clear HB
                clear h0_ h1_ h2_ h3_ h4_ h5_ h6_
                have BK190 := n0_
                have BK195 := n1_
                have GW195 := n2_
                have GE195 := n3_
                have NB190_195 := n4_
                have NB195_190 := n5_
                have HB := n6_
                clear n0_ n1_ n2_ n3_ n4_ n5_ n6_
                have hHeld := trivial
                refine norm_ (a' := ?_) ?_ ?_
                rotate_left
                · simp only [putAll, Act.put, List.setIfInBounds_toArray, List.set_cons_zero, List.set_cons_succ]
                  rfl
                refine one_ (i := 21) (N := none) #[true, true, true, true, true, true, true, true, true, true, true, true, true, true, true, true, true, true, true, true, true, true] rfl rfl (one_of HT_.out (by kernel_rfl)) (by decide) (fun K hK => ?_)
                have hs31 : w30.cell? ⟨gb195, 0, none⟩ = some (.int .u64 0) := (blk_cell BK195.out 0).trans rfl
                have hfs31 := blk_frozen BK195.out 0
                have hns31_0 := NB190_195.out
                have hms31_0 := NB195_190.out
                have hs32 : w30.cell? ⟨gb195, 1, none⟩ = some (.int .u64 0) := (blk_cell BK195.out 1).trans rfl
                have hfs32 := blk_frozen BK195.out 1
                have hns32_0 := NB190_195.out
                have hms32_0 := NB195_190.out
                have hs33 : w30.cell? ⟨gb195, 2, none⟩ = some (.int .u8 0) := (blk_cell BK195.out 2).trans rfl
                have hfs33 := blk_frozen BK195.out 2
                have hns33_0 := NB190_195.out
                have hms33_0 := NB195_190.out
                have hs34 : w30.cell? ⟨gb195, 3, none⟩ = some (.bool false) := (blk_cell BK195.out 3).trans rfl
                have hfs34 := blk_frozen BK195.out 3
                have hns34_0 := NB190_195.out
                have hms34_0 := NB195_190.out
                have hs35 : w30.cell? ⟨gb195, 4, none⟩ = some (.int .u16 0) := (blk_cell BK195.out 4).trans rfl
                have hfs35 := blk_frozen BK195.out 4
                have hns35_0 := NB190_195.out
                have hms35_0 := NB195_190.out
                have hs36 : w30.cell? ⟨gb195, 5, none⟩ = some (.int .u16 0) := (blk_cell BK195.out 5).trans rfl
                have hfs36 := blk_frozen BK195.out 5
                have hns36_0 := NB190_195.out
                have hms36_0 := NB195_190.out
                have hs37 : w30.cell? ⟨gb195, 6, none⟩ = some (.string (⟨#[]⟩ : ByteArray)) := (blk_cell BK195.out 6).trans rfl
                have hfs37 := blk_frozen BK195.out 6
                have hns37_0 := NB190_195.out
                have hms37_0 := NB195_190.out
                refine skip_ (w1 := ?_) (by rfl) rfl ?_ ?_
                rotate_left
                · go_simp
                  rfl
                refine hK.out _ _ trivial (fun hHeld => ?_)
                clear hK K
                refine done_ (done_of HT_.out (by kernel_rfl)) ?_
                have hnb38 := NB195_190.out
                have hnc38 := NB190_195.out
                have hcz39_0 : w30.cell? ⟨gb195, 0, none⟩ = some (.int .u64 0) := (blk_cell BK195.out 0).trans rfl
                have hcz39_1 : w30.cell? ⟨gb195, 1, none⟩ = some (.int .u64 0) := (blk_cell BK195.out 1).trans rfl
                have hcz39_2 : w30.cell? ⟨gb195, 2, none⟩ = some (.int .u8 0) := (blk_cell BK195.out 2).trans rfl
                have hcz39_3 : w30.cell? ⟨gb195, 3, none⟩ = some (.bool false) := (blk_cell BK195.out 3).trans rfl
                have hcz39_4 : w30.cell? ⟨gb195, 4, none⟩ = some (.int .u16 0) := (blk_cell BK195.out 4).trans rfl
                have hcz39_5 : w30.cell? ⟨gb195, 5, none⟩ = some (.int .u16 0) := (blk_cell BK195.out 5).trans rfl
                have hcz39_6 : w30.cell? ⟨gb195, 6, none⟩ = some (.string (⟨#[]⟩ : ByteArray)) := (blk_cell BK195.out 6).trans rfl
                have hfz39_0 := blk_frozen BK195.out 0
                have hfz39_1 := blk_frozen BK195.out 1
                have hfz39_2 := blk_frozen BK195.out 2
                have hfz39_3 := blk_frozen BK195.out 3
                have hfz39_4 := blk_frozen BK195.out 4
                have hfz39_5 := blk_frozen BK195.out 5
                have hfz39_6 := blk_frozen BK195.out 6
                try go_wp2_with (first | ((with_reducible refine gate_callee (f := 33) rfl ?_); refine goesL_ (some 47) rfl rfl Try.func33 (by kernel_rfl) rfl #[.int .u64 t193] rfl (by (try simp only [List.map_toArray, List.map_cons, List.map_nil]); first | done | rfl | (simp only [List.length_drop, List.length_take]; rfl)) ?_; (with_reducible refine (carouselref02_Group.calls t193 true _ A22.out).mono ?_); rintro e w' ⟨rfl, ⟨nd, rfl⟩⟩; refine ⟨_, rfl, ?_⟩; have hcz40_0 : w30.cell? ⟨gb190, 0, none⟩ = some (.int .u64 0) := (blk_cell BK190.out 0).trans rfl; have hcz40_1 : w30.cell? ⟨gb190, 1, none⟩ = some (.int .u64 0) := (blk_cell BK190.out 1).trans rfl; have hcz40_2 : w30.cell? ⟨gb190, 2, none⟩ = some (.int .u8 0) := (blk_cell BK190.out 2).trans rfl; have hcz40_3 : w30.cell? ⟨gb190, 3, none⟩ = some (.bool false) := (blk_cell BK190.out 3).trans rfl; have hcz40_4 : w30.cell? ⟨gb190, 4, none⟩ = some (.int .u16 0) := (blk_cell BK190.out 4).trans rfl; have hcz40_5 : w30.cell? ⟨gb190, 5, none⟩ = some (.int .u16 0) := (blk_cell BK190.out 5).trans rfl; have hcz40_6 : w30.cell? ⟨gb190, 6, none⟩ = some (.string (⟨#[]⟩ : ByteArray)) := (blk_cell BK190.out 6).trans rfl; have hfz40_0 := blk_frozen BK190.out 0; have hfz40_1 := blk_frozen BK190.out 1; have hfz40_2 := blk_frozen BK190.out 2; have hfz40_3 := blk_frozen BK190.out 3; have hfz40_4 := blk_frozen BK190.out 4; have hfz40_5 := blk_frozen BK190.out 5; have hfz40_6 := blk_frozen BK190.out 6))
                refine bodyPost_ret (results_ct rfl _ _ gb190 32 #[.int .u64 0, .int .u64 0, .int .u8 0, .bool false, .int .u16 0, .int .u16 0, .string (⟨#[]⟩ : ByteArray)] (0, 0) _ rfl (by (with_reducible repeat (first | refine blk_drewN ?_ _ | refine blk_drew ?_ | refine blk_alloc ?_ _)); refine blk_put (cs := #[.int .u64 0, .int .u64 0, .int .u8 0, .bool false, .int .u16 0, .int .u16 0, .string (⟨#[]⟩ : ByteArray)]) ?_ 6 _ rfl; (with_reducible repeat (first | refine blk_drewN ?_ _ | refine blk_drew ?_ | refine blk_alloc ?_ _)); refine blk_put (cs := #[.int .u64 0, .int .u64 0, .int .u8 0, .bool false, .int .u16 0, .int .u16 0, .string (⟨#[]⟩ : ByteArray)]) ?_ 5 _ rfl; (with_reducible repeat (first | refine blk_drewN ?_ _ | refine blk_drew ?_ | refine blk_alloc ?_ _)); refine blk_put (cs := #[.int .u64 0, .int .u64 0, .int .u8 0, .bool false, .int .u16 0, .int .u16 0, .string (⟨#[]⟩ : ByteArray)]) ?_ 4 _ rfl; (with_reducible repeat (first | refine blk_drewN ?_ _ | refine blk_drew ?_ | refine blk_alloc ?_ _)); refine blk_put (cs := #[.int .u64 0, .int .u64 0, .int .u8 0, .bool false, .int .u16 0, .int .u16 0, .string (⟨#[]⟩ : ByteArray)]) ?_ 3 _ rfl; (with_reducible repeat (first | refine blk_drewN ?_ _ | refine blk_drew ?_ | refine blk_alloc ?_ _)); refine blk_put (cs := #[.int .u64 0, .int .u64 0, .int .u8 0, .bool false, .int .u16 0, .int .u16 0, .string (⟨#[]⟩ : ByteArray)]) ?_ 2 _ rfl; (with_reducible repeat (first | refine blk_drewN ?_ _ | refine blk_drew ?_ | refine blk_alloc ?_ _)); refine blk_put (cs := #[.int .u64 0, .int .u64 0, .int .u8 0, .bool false, .int .u16 0, .int .u16 0, .string (⟨#[]⟩ : ByteArray)]) ?_ 1 _ rfl; (with_reducible repeat (first | refine blk_drewN ?_ _ | refine blk_drew ?_ | refine blk_alloc ?_ _)); refine blk_put (cs := #[.int .u64 0, .int .u64 0, .int .u8 0, .bool false, .int .u16 0, .int .u16 0, .string (⟨#[]⟩ : ByteArray)]) ?_ 0 _ rfl; (with_reducible repeat (first | refine blk_drewN ?_ _ | refine blk_drew ?_ | refine blk_alloc ?_ _)); refine blk_far ?_ NB190_195.out _; (with_reducible repeat (first | refine blk_drewN ?_ _ | refine blk_drew ?_ | refine blk_alloc ?_ _)); refine blk_far ?_ NB190_195.out _; (with_reducible repeat (first | refine blk_drewN ?_ _ | refine blk_drew ?_ | refine blk_alloc ?_ _)); refine blk_far ?_ NB190_195.out _; (with_reducible repeat (first | refine blk_drewN ?_ _ | refine blk_drew ?_ | refine blk_alloc ?_ _)); refine blk_far ?_ NB190_195.out _; (with_reducible repeat (first | refine blk_drewN ?_ _ | refine blk_drew ?_ | refine blk_alloc ?_ _)); refine blk_far ?_ NB190_195.out _; (with_reducible repeat (first | refine blk_drewN ?_ _ | refine blk_drew ?_ | refine blk_alloc ?_ _)); refine blk_far ?_ NB190_195.out _; (with_reducible repeat (first | refine blk_drewN ?_ _ | refine blk_drew ?_ | refine blk_alloc ?_ _)); refine blk_far ?_ NB190_195.out _; (with_reducible repeat (first | refine blk_drewN ?_ _ | refine blk_drew ?_ | refine blk_alloc ?_ _)); exact BK190.out) Try.underlying32 rfl (by kernel_rfl)) rfl ?_
                exact ⟨by first | rfl | (simp [errW_none, errW_some] <;> rfl) | (simp [*, errW_none, errW_some] <;> rfl), by repeat (first | (with_reducible first | exact HB.out | apply below_alloc | apply pw_below_drewN | apply below_drew1 | refine below_set ?_ GE190.out | refine below_set ?_ GE195.out) | exact HB.out)⟩
              · replace c23 := Bool.eq_false_iff.mpr c23
                subst c23
                have H1 : (if (IntKind.u16.wrap (Int.tmod t191 4096)) = 0 then (carouselref03_Open.j1 kj7 true t192 t193 ((IntKind.u64.wrap (Int.tdiv t191 8192)) % 256) ((Int.tmod (IntKind.u64.wrap (Int.tdiv t191 4096)) 2) == 1) (IntKind.u16.wrap (Int.tmod t191 4096)) (IntKind.u16.wrap (t194)) (a0.extract 18 a0.size)) else (carouselref03_Open.j1 kj7 ((IntKind.u16.wrap (Int.tmod t191 4096)) == 4095) t192 t193 ((IntKind.u64.wrap (Int.tdiv t191 8192)) % 256) ((Int.tmod (IntKind.u64.wrap (Int.tdiv t191 4096)) 2) == 1) (IntKind.u16.wrap (Int.tmod t191 4096)) (IntKind.u16.wrap (t194)) (a0.extract 18 a0.size))) = some (r1, r2, r3, r4, r5, r6, r7, r8) := by rw [if_neg (show ¬ (false = true) by decide)] at H; exact H
                clear H
                have H := H1
                clear H1
                have HC41 := Aside0.mk H
                clear H
                try go_wp2_with (first | ((with_reducible refine gate_callee (f := 32) rfl ?_); refine goesL_ (some 24) rfl rfl Try.func32 (by kernel_rfl) rfl #[.string a0, .int .i64 14, .int .i64 2] rfl (by (try simp only [List.map_toArray, List.map_cons, List.map_nil]); first | done | rfl | (simp only [List.length_drop, List.length_take]; rfl)) ?_; (with_reducible refine (carouselref01_Get.calls kj7 a0 14 2 t191 _ A17.out).mono ?_); rintro e w42 ⟨rfl, hb⟩; refine ⟨_, rfl, ?_⟩; have n0_ := Aside0.mk (blk_below (g := gb190) (o := .cells #[.int .u64 0, .int .u64 0, .int .u8 0, .bool false, .int .u16 0, .int .u16 0, .string (⟨#[]⟩ : ByteArray)] 32 (0, 0)) (by (with_reducible repeat (first | refine blk_drewN ?_ _ | refine blk_drew ?_ | refine blk_alloc ?_ _)); exact BK190.out) hb); have n1_ := Aside0.mk (below_step (by repeat (first | (with_reducible first | exact HB.out | apply below_alloc | apply pw_below_drewN | apply below_drew1 | refine below_set ?_ GE190.out) | exact HB.out)) hb); clear BK190; clear HB; have BK190 := n0_; have HB := n1_; clear n0_ n1_; (try clear hb); (try clear hb2); (try clear hk); (try clear hi)))
                have n0_ := Aside0.mk (blk_drew BK190.out)
                have n1_ := Aside0.mk (below_drew1 HB.out)
                clear BK190
                clear HB
                have BK190 := n0_
                have HB := n1_
                clear n0_ n1_
                refine start_ (n := 22) (S := fun w' => True) (ds := []) #[false, false, false, false, false, false, false, false, false, false, false, false, false, false, false, false, false, false, false, false, false, false] (by kernel_rfl) rfl rfl trivial (fun hHeld => ?_); refine with_tabW carouselref03_Open.tab8 carouselref03_Open.bits8 (fun HT_ HW_ => ?_)
                generalize w42.drew = w43 at BK190 HB hHeld ⊢
                refine pure_ (i := 0) (N := some 25) (v := ?_) (a' := ?_) #[true, false, false, false, false, false, false, false, false, false, false, false, false, false, false, false, false, false, false, false, false, false] rfl rfl (any_of HT_.out (by kernel_rfl)) (fun _ _ _ h => h) (Or.inl ⟨by rfl, ?_⟩) ?_ ?_
                rotate_left
                · intro w'
                  go_simp
                  with_reducible rfl
                rotate_left
                · simp only [Act.put, List.setIfInBounds_toArray, List.set_cons_zero, List.set_cons_succ, i64_w, i32_w]
                  rfl
                refine pure_ (i := 2) (N := some 27) (v := ?_) (a' := ?_) #[true, false, true, false, false, false, false, false, false, false, false, false, false, false, false, false, false, false, false, false, false, false] rfl rfl (any_of HT_.out (by kernel_rfl)) (fun _ _ _ h => h) (Or.inl ⟨by rfl, ?_⟩) ?_ ?_
                rotate_left
                · intro w'
                  go_simp
                  with_reducible rfl
                rotate_left
                · simp only [Act.put, List.setIfInBounds_toArray, List.set_cons_zero, List.set_cons_succ, i64_w, i32_w]
                  rfl
                refine pure_ (i := 4) (N := some 29) (v := ?_) (a' := ?_) #[true, false, true, false, true, false, false, false, false, false, false, false, false, false, false, false, false, false, false, false, false, false] rfl rfl (any_of HT_.out (by kernel_rfl)) (fun _ _ _ h => h) (Or.inl ⟨by rfl, ?_⟩) ?_ ?_
                rotate_left
                · intro w'
                  go_simp
                  with_reducible rfl
                rotate_left
                · simp only [Act.put, List.setIfInBounds_toArray, List.set_cons_zero, List.set_cons_succ, i64_w, i32_w]
                  rfl
                refine pure_ (i := 5) (N := some 30) (v := ?_) (a' := ?_) #[true, false, true, false, true, true, false, false, false, false, false, false, false, false, false, false, false, false, false, false, false, false] rfl rfl (any_of HT_.out (by kernel_rfl)) (fun _ _ _ h => h) (Or.inl ⟨by rfl, ?_⟩) ?_ ?_
                rotate_left
                · intro w'
                  go_simp
                  with_reducible rfl
                rotate_left
                · simp only [Act.put, List.setIfInBounds_toArray, List.set_cons_zero, List.set_cons_succ, i64_w, i32_w]
                  rfl
                refine pure_ (i := 6) (N := some 31) (v := ?_) (a' := ?_) #[true, false, true, false, true, true, true, false, false, false, false, false, false, false, false, false, false, false, false, false, false, false] rfl rfl (any_of HT_.out (by kernel_rfl)) (fun _ _ _ h => h) (Or.inl ⟨by rfl, ?_⟩) ?_ ?_
                rotate_left
                · intro w'
                  go_simp
                  with_reducible rfl
                rotate_left
                · simp only [Act.put, List.setIfInBounds_toArray, List.set_cons_zero, List.set_cons_succ, i64_w, i32_w]
                  rfl
                refine pure_ (i := 7) (N := some 32) (v := ?_) (a' := ?_) #[true, false, true, false, true, true, true, true, false, false, false, false, false, false, false, false, false, false, false, false, false, false] rfl rfl (any_of HT_.out (by kernel_rfl)) (fun _ _ _ h => h) (Or.inl ⟨by rfl, ?_⟩) ?_ ?_
                rotate_left
                · intro w'
                  go_simp
                  with_reducible rfl
                rotate_left
                · simp only [Act.put, List.setIfInBounds_toArray, List.set_cons_zero, List.set_cons_succ, i64_w, i32_w]
                  rfl
                refine pure_ (i := 8) (N := some 33) (v := ?_) (a' := ?_) #[true, false, true, false, true, true, true, true, true, false, false, false, false, false, false, false, false, false, false, false, false, false] rfl rfl (any_of HT_.out (by kernel_rfl)) (fun _ _ _ h => h) (Or.inl ⟨by rfl, ?_⟩) ?_ ?_
                rotate_left
                · intro w'
                  go_simp
                  with_reducible rfl
                rotate_left
                · simp only [Act.put, List.setIfInBounds_toArray, List.set_cons_zero, List.set_cons_succ, i64_w, i32_w]
                  rfl
                refine pure_ (i := 9) (N := some 34) (v := ?_) (a' := ?_) #[true, false, true, false, true, true, true, true, true, true, false, false, false, false, false, false, false, false, false, false, false, false] rfl rfl (any_of HT_.out (by kernel_rfl)) (fun _ _ _ h => h) (Or.inl ⟨by rfl, ?_⟩) ?_ ?_
                rotate_left
                · intro w'
                  go_simp
                  with_reducible rfl
                rotate_left
                · simp only [Act.put, List.setIfInBounds_toArray, List.set_cons_zero, List.set_cons_succ, i64_w, i32_w]
                  rfl
                refine pure_ (i := 10) (N := some 35) (v := ?_) (a' := ?_) #[true, false, true, false, true, true, true, true, true, true, true, false, false, false, false, false, false, false, false, false, false, false] rfl rfl (any_of HT_.out (by kernel_rfl)) (fun _ _ _ h => h) (Or.inl ⟨by rfl, ?_⟩) ?_ ?_
                rotate_left
                · intro w'
                  go_simp
                  with_reducible rfl
                rotate_left
                · simp only [Act.put, List.setIfInBounds_toArray, List.set_cons_zero, List.set_cons_succ, i64_w, i32_w]
                  rfl
                refine pure_ (i := 11) (N := some 36) (v := ?_) (a' := ?_) #[true, false, true, false, true, true, true, true, true, true, true, true, false, false, false, false, false, false, false, false, false, false] rfl rfl (any_of HT_.out (by kernel_rfl)) (fun _ _ _ h => h) (Or.inl ⟨by rfl, ?_⟩) ?_ ?_
                rotate_left
                · intro w'
                  go_simp
                  with_reducible rfl
                rotate_left
                · simp only [Act.put, List.setIfInBounds_toArray, List.set_cons_zero, List.set_cons_succ, i64_w, i32_w]
                  rfl
                refine pure_ (i := 12) (N := some 37) (v := ?_) (a' := ?_) #[true, false, true, false, true, true, true, true, true, true, true, true, true, false, false, false, false, false, false, false, false, false] rfl rfl (any_of HT_.out (by kernel_rfl)) (fun _ _ _ h => h) (Or.inl ⟨by rfl, ?_⟩) ?_ ?_
                rotate_left
                · intro w'
                  go_simp
                  with_reducible rfl
                rotate_left
                · simp only [Act.put, List.setIfInBounds_toArray, List.set_cons_zero, List.set_cons_succ, i64_w, i32_w]
                  rfl
                refine pure_ (i := 13) (N := some 38) (v := ?_) (a' := ?_) #[true, false, true, false, true, true, true, true, true, true, true, true, true, true, false, false, false, false, false, false, false, false] rfl rfl (any_of HT_.out (by kernel_rfl)) (fun _ _ _ h => h) (Or.inl ⟨by rfl, ?_⟩) ?_ ?_
                rotate_left
                · intro w'
                  go_simp
                  with_reducible rfl
                rotate_left
                · simp only [Act.put, List.setIfInBounds_toArray, List.set_cons_zero, List.set_cons_succ, i64_w, i32_w]
                  rfl
                refine pure_ (i := 14) (N := some 39) (v := ?_) (a' := ?_) #[true, false, true, false, true, true, true, true, true, true, true, true, true, true, true, false, false, false, false, false, false, false] rfl rfl (any_of HT_.out (by kernel_rfl)) (fun _ _ _ h => h) (Or.inl ⟨by rfl, ?_⟩) ?_ ?_
                rotate_left
                · intro w'
                  go_simp
                  with_reducible rfl
                rotate_left
                · simp only [Act.put, List.setIfInBounds_toArray, List.set_cons_zero, List.set_cons_succ, i64_w, i32_w]
                  rfl
                refine pure_ (i := 17) (N := some 42) (v := ?_) (a' := ?_) #[true, false, true, false, true, true, true, true, true, true, true, true, true, true, true, false, false, true, false, false, false, false] rfl rfl (any_of HT_.out (by kernel_rfl)) (fun _ _ _ h => h) (Or.inl ⟨by rfl, ?_⟩) ?_ ?_
                rotate_left
                · intro w'
                  go_simp
                  with_reducible rfl
                rotate_left
                · simp only [Act.put, List.setIfInBounds_toArray, List.set_cons_zero, List.set_cons_succ, i64_w, i32_w]
                  rfl
                refine pure_ (i := 18) (N := some 43) (v := ?_) (a' := ?_) #[true, false, true, false, true, true, true, true, true, true, true, true, true, true, true, false, false, true, true, false, false, false] rfl rfl (any_of HT_.out (by kernel_rfl)) (fun _ _ _ h => h) (Or.inl ⟨by rfl, ?_⟩) ?_ ?_
                rotate_left
                · intro w'
                  go_simp
                  with_reducible rfl
                rotate_left
                · simp only [Act.put, List.setIfInBounds_toArray, List.set_cons_zero, List.set_cons_succ, i64_w, i32_w]
                  rfl
                refine join_ (σ := Nat) 1 #[true, true, true, true, true, true, true, true, true, true, true, true, true, true, true, true, true, true, true, true, true, false] (fun s_ => [(26, .int .u64 t192), (28, .int .u64 t193), (40, .int .u64 t194), (5, .pointer (some ⟨s_, 0, none⟩)), (41, .int .u16 (IntKind.u16.wrap (t194))), (44, .agg #[.int .u64 t192, .int .u64 t193, .int .u8 ((IntKind.u64.wrap (Int.tdiv t191 8192)) % 256), .bool ((Int.tmod (IntKind.u64.wrap (Int.tdiv t191 4096)) 2) == 1), .int .u16 (IntKind.u16.wrap (Int.tmod t191 4096)), .int .u16 (IntKind.u16.wrap (t194)), .string (a0.extract 18 a0.size)])]) (fun s_ w' => (w'.heap[gb190]? = some (.cells #[.int .u64 0, .int .u64 0, .int .u8 0, .bool false, .int .u16 0, .int .u16 0, .string (⟨#[]⟩ : ByteArray)] 32 (0, 0))) ∧ (w'.heap[s_]? = some (.cells #[.int .u64 0, .int .u64 0, .int .u8 0, .bool false, .int .u16 0, .int .u16 0, .string (⟨#[]⟩ : ByteArray)] 32 (0, 0))) ∧ (w.heap.size ≤ s_) ∧ (w.heap.size ≤ s_) ∧ (gb190 ≠ s_) ∧ (s_ ≠ gb190) ∧ (Below w.heap.size w w')) ?_ ?_
                rotate_left
                · intro hCont
                  refine two_ (i := 1) (j := 20) (Ni := some 26) (Nj := some 5) #[true, true, true, false, true, true, true, true, true, true, true, true, true, true, true, false, false, true, true, false, false, false] #[true, false, true, false, true, true, true, true, true, true, true, true, true, true, true, false, false, true, true, false, true, false] rfl rfl rfl rfl (two_of HT_.out (by kernel_rfl)) (by decide) (by decide) (fun K hK => ?_) (fun K hK => ?_)
                  · skip
                    refine goes_ Try.func32 (by kernel_rfl) rfl #[.string a0, .int .i64 0, .int .i64 6] (by rfl) rfl rfl (by (try simp only [List.map_toArray, List.map_cons, List.map_nil]); first | done | rfl | (simp only [List.length_drop, List.length_take]; rfl)) ?_
                    with_reducible refine (carouselref01_Get.calls kj7 a0 0 6 t192 _ A18.out).mono ?_
                    rintro e w44 ⟨rfl, hb⟩
                    refine ⟨_, rfl, ?_⟩
                    have n0_ := Aside0.mk (blk_below (g := gb190) (o := .cells #[.int .u64 0, .int .u64 0, .int .u8 0, .bool false, .int .u16 0, .int .u16 0, .string (⟨#[]⟩ : ByteArray)] 32 (0, 0)) (by (with_reducible repeat (first | refine blk_drewN ?_ _ | refine blk_drew ?_ | refine blk_alloc ?_ _)); exact BK190.out) hb)
                    have n1_ := Aside0.mk (below_step (by repeat (first | (with_reducible first | exact HB.out | apply below_alloc | apply pw_below_drewN | apply below_drew1 | refine below_set ?_ GE190.out) | exact HB.out)) hb)
                    clear BK190
                    clear HB
                    have BK190 := n0_
                    have HB := n1_
                    clear n0_ n1_
                    (try clear hb)
                    (try clear hb2)
                    (try clear hk)
                    (try clear hi)
                    refine hK.out _ _ trivial (fun hHeld => ?_)
                    clear hK K
                    refine norm_ (a' := ?_) ?_ ?_
                    rotate_left
                    · show Act.put _ (some 26) _ = _
                      simp only [Act.put, List.setIfInBounds_toArray, List.set_cons_zero, List.set_cons_succ, i64_w, i32_w]
                      rfl
                    refine two_ (i := 3) (j := 20) (Ni := some 28) (Nj := some 5) #[true, true, true, true, true, true, true, true, true, true, true, true, true, true, true, false, false, true, true, false, false, false] #[true, true, true, false, true, true, true, true, true, true, true, true, true, true, true, false, false, true, true, false, true, false] rfl rfl rfl rfl (two_of HT_.out (by kernel_rfl)) (by decide) (by decide) (fun K hK => ?_) (fun K hK => ?_)
                    · skip
                      refine goes_ Try.func32 (by kernel_rfl) rfl #[.string a0, .int .i64 6, .int .i64 6] (by rfl) rfl rfl (by (try simp only [List.map_toArray, List.map_cons, List.map_nil]); first | done | rfl | (simp only [List.length_drop, List.length_take]; rfl)) ?_
                      with_reducible refine (carouselref01_Get.calls kj7 a0 6 6 t193 _ A19.out).mono ?_
                      rintro e w45 ⟨rfl, hb⟩
                      refine ⟨_, rfl, ?_⟩
                      have n0_ := Aside0.mk (blk_below (g := gb190) (o := .cells #[.int .u64 0, .int .u64 0, .int .u8 0, .bool false, .int .u16 0, .int .u16 0, .string (⟨#[]⟩ : ByteArray)] 32 (0, 0)) (by (with_reducible repeat (first | refine blk_drewN ?_ _ | refine blk_drew ?_ | refine blk_alloc ?_ _)); exact BK190.out) hb)
                      have n1_ := Aside0.mk (below_step (by repeat (first | (with_reducible first | exact HB.out | apply below_alloc | apply pw_below_drewN | apply below_drew1 | refine below_set ?_ GE190.out) | exact HB.out)) hb)
                      clear BK190
                      clear HB
                      have BK190 := n0_
                      have HB := n1_
                      clear n0_ n1_
                      (try clear hb)
                      (try clear hb2)
                      (try clear hk)
                      (try clear hi)
                      refine hK.out _ _ trivial (fun hHeld => ?_)
                      clear hK K
                      refine norm_ (a' := ?_) ?_ ?_
                      rotate_left
                      · show Act.put _ (some 28) _ = _
                        simp only [Act.put, List.setIfInBounds_toArray, List.set_cons_zero, List.set_cons_succ, i64_w, i32_w]
                        rfl
                      refine two_ (i := 15) (j := 20) (Ni := some 40) (Nj := some 5) #[true, true, true, true, true, true, true, true, true, true, true, true, true, true, true, true, false, true, true, false, false, false] #[true, true, true, true, true, true, true, true, true, true, true, true, true, true, true, false, false, true, true, false, true, false] rfl rfl rfl rfl (two_of HT_.out (by kernel_rfl)) (by decide) (by decide) (fun K hK => ?_) (fun K hK => ?_)
                      · skip
                        refine goes_ Try.func32 (by kernel_rfl) rfl #[.string a0, .int .i64 16, .int .i64 2] (by rfl) rfl rfl (by (try simp only [List.map_toArray, List.map_cons, List.map_nil]); first | done | rfl | (simp only [List.length_drop, List.length_take]; rfl)) ?_
                        with_reducible refine (carouselref01_Get.calls kj7 a0 16 2 t194 _ A20.out).mono ?_
                        rintro e w46 ⟨rfl, hb⟩
                        refine ⟨_, rfl, ?_⟩
                        have n0_ := Aside0.mk (blk_below (g := gb190) (o := .cells #[.int .u64 0, .int .u64 0, .int .u8 0, .bool false, .int .u16 0, .int .u16 0, .string (⟨#[]⟩ : ByteArray)] 32 (0, 0)) (by (with_reducible repeat (first | refine blk_drewN ?_ _ | refine blk_drew ?_ | refine blk_alloc ?_ _)); exact BK190.out) hb)
                        have n1_ := Aside0.mk (below_step (by repeat (first | (with_reducible first | exact HB.out | apply below_alloc | apply pw_below_drewN | apply below_drew1 | refine below_set ?_ GE190.out) | exact HB.out)) hb)
                        clear BK190
                        clear HB
                        have BK190 := n0_
                        have HB := n1_
                        clear n0_ n1_
                        (try clear hb)
                        (try clear hb2)
                        (try clear hk)
                        (try clear hi)
                        refine hK.out _ _ trivial (fun hHeld => ?_)
                        clear hK K
                        refine norm_ (a' := ?_) ?_ ?_
                        rotate_left
                        · show Act.put _ (some 40) _ = _
                          simp only [Act.put, List.setIfInBounds_toArray, List.set_cons_zero, List.set_cons_succ, i64_w, i32_w]
                          rfl
                        refine pure_ (i := 16) (N := some 41) (v := ?_) (a' := ?_) #[true, true, true, true, true, true, true, true, true, true, true, true, true, true, true, true, true, true, true, false, false, false] rfl rfl (any_of HT_.out (by kernel_rfl)) (fun _ _ _ h => h) (Or.inl ⟨by rfl, ?_⟩) ?_ ?_
                        rotate_left
                        · intro w'
                          go_simp
                          with_reducible rfl
                        rotate_left
                        · simp only [Act.put, List.setIfInBounds_toArray, List.set_cons_zero, List.set_cons_succ, i64_w, i32_w]
                          rfl
                        refine pure_ (i := 19) (N := some 44) (v := ?_) (a' := ?_) #[true, true, true, true, true, true, true, true, true, true, true, true, true, true, true, true, true, true, true, true, false, false] rfl rfl (any_of HT_.out (by kernel_rfl)) (fun _ _ _ h => h) (Or.inl ⟨by rfl, ?_⟩) ?_ ?_
                        rotate_left
                        · intro w'
                          go_simp
                          with_reducible rfl
                        rotate_left
                        · simp only [Act.put, List.setIfInBounds_toArray, List.set_cons_zero, List.set_cons_succ, i64_w, i32_w]
                          rfl
                        refine one_ (i := 20) (N := some 5) #[true, true, true, true, true, true, true, true, true, true, true, true, true, true, true, true, true, true, true, true, true, false] rfl rfl (one_of HT_.out (by kernel_rfl)) (by decide) (fun K hK => ?_)
                        refine box_step ?hg (N := 5) ?hd (cs := #[.int .u64 0, .int .u64 0, .int .u8 0, .bool false, .int .u16 0, .int .u16 0, .string (⟨#[]⟩ : ByteArray)]) (t := 32) ?hr ?_; (case hd => rfl); (case hg => rfl); (case hr => first | (go_simp; done) | (go_simp; rfl))
                        intro gb195 hg w47 hbox hb
                        have n0_ := Aside0.mk (blk_below (g := gb190) (o := .cells #[.int .u64 0, .int .u64 0, .int .u8 0, .bool false, .int .u16 0, .int .u16 0, .string (⟨#[]⟩ : ByteArray)] 32 (0, 0)) (by (with_reducible repeat (first | refine blk_drewN ?_ _ | refine blk_drew ?_ | refine blk_alloc ?_ _)); exact BK190.out) hb)
                        have n1_ := Aside0.mk (below_step (by repeat (first | (with_reducible first | exact HB.out | apply below_alloc | apply pw_below_drewN | apply below_drew1 | refine below_set ?_ GE190.out) | exact HB.out)) hb)
                        have n2_ := Aside0.mk (hbox)
                        have n3_ := Aside0.mk ((by rw [hg]; exact (below_size (by repeat (first | (with_reducible first | exact HB.out | apply below_alloc | apply pw_below_drewN | apply below_drew1 | refine below_set ?_ GE190.out) | exact HB.out))) : w.heap.size ≤ gb195))
                        have n4_ := Aside0.mk ((by rw [hg]; exact (below_size (by repeat (first | (with_reducible first | exact HB.out | apply below_alloc | apply pw_below_drewN | apply below_drew1 | refine below_set ?_ GE190.out) | exact HB.out))) : w.heap.size ≤ gb195))
                        have n5_ := Aside0.mk ((by rw [hg]; exact Nat.ne_of_lt (blk_lt (g := gb190) (o := .cells #[.int .u64 0, .int .u64 0, .int .u8 0, .bool false, .int .u16 0, .int .u16 0, .string (⟨#[]⟩ : ByteArray)] 32 (0, 0)) (by (with_reducible repeat (first | refine blk_drewN ?_ _ | refine blk_drew ?_ | refine blk_alloc ?_ _)); exact BK190.out)) : gb190 ≠ gb195))
                        have n6_ := Aside0.mk ((by rw [hg]; exact Nat.ne_of_gt (blk_lt (g := gb190) (o := .cells #[.int .u64 0, .int .u64 0, .int .u8 0, .bool false, .int .u16 0, .int .u16 0, .string (⟨#[]⟩ : ByteArray)] 32 (0, 0)) (by (with_reducible repeat (first | refine blk_drewN ?_ _ | refine blk_drew ?_ | refine blk_alloc ?_ _)); exact BK190.out)) : gb195 ≠ gb190))
                        clear BK190
                        clear HB
                        have BK190 := n0_
                        have HB := n1_
                        have BK195 := n2_
                        have GW195 := n3_
                        have GE195 := n4_
                        have NB190_195 := n5_
                        have NB195_190 := n6_
                        clear n0_ n1_ n2_ n3_ n4_ n5_ n6_
                        clear hb hbox hg
                        refine hK.out _ _ trivial (fun hHeld => ?_)
                        clear hK K
                        refine norm_ (a' := ?_) ?_ ?_
                        rotate_left
                        · show Act.put _ (some 5) _ = _
                          simp only [Act.put, List.setIfInBounds_toArray, List.set_cons_zero, List.set_cons_succ, i64_w, i32_w]
                          rfl
                        exact norm_ (by first | (simp only [putAll, Act.put, List.setIfInBounds_toArray, List.set_cons_zero, List.set_cons_succ]; done) | (simp only [putAll, Act.put, List.setIfInBounds_toArray, List.set_cons_zero, List.set_cons_succ]; rfl)) (hCont (gb195) _ ⟨(by (with_reducible repeat (first | refine blk_drewN ?_ _ | refine blk_drew ?_ | refine blk_alloc ?_ _)); exact BK190.out), (by (with_reducible repeat (first | refine blk_drewN ?_ _ | refine blk_drew ?_ | refine blk_alloc ?_ _)); exact BK195.out), GW195.out, GE195.out, NB190_195.out, NB195_190.out, (by repeat (first | (with_reducible first | exact HB.out | apply below_alloc | apply pw_below_drewN | apply below_drew1 | refine below_set ?_ GE190.out | refine below_set ?_ GE195.out) | exact HB.out))⟩)
                      · skip
                        refine box_step ?hg (N := 5) ?hd (cs := #[.int .u64 0, .int .u64 0, .int .u8 0, .bool false, .int .u16 0, .int .u16 0, .string (⟨#[]⟩ : ByteArray)]) (t := 32) ?hr ?_; (case hd => rfl); (case hg => rfl); (case hr => first | (go_simp; done) | (go_simp; rfl))
                        intro gb195 hg w46 hbox hb
                        have n0_ := Aside0.mk (blk_below (g := gb190) (o := .cells #[.int .u64 0, .int .u64 0, .int .u8 0, .bool false, .int .u16 0, .int .u16 0, .string (⟨#[]⟩ : ByteArray)] 32 (0, 0)) (by (with_reducible repeat (first | refine blk_drewN ?_ _ | refine blk_drew ?_ | refine blk_alloc ?_ _)); exact BK190.out) hb)
                        have n1_ := Aside0.mk (below_step (by repeat (first | (with_reducible first | exact HB.out | apply below_alloc | apply pw_below_drewN | apply below_drew1 | refine below_set ?_ GE190.out) | exact HB.out)) hb)
                        have n2_ := Aside0.mk (hbox)
                        have n3_ := Aside0.mk ((by rw [hg]; exact (below_size (by repeat (first | (with_reducible first | exact HB.out | apply below_alloc | apply pw_below_drewN | apply below_drew1 | refine below_set ?_ GE190.out) | exact HB.out))) : w.heap.size ≤ gb195))
                        have n4_ := Aside0.mk ((by rw [hg]; exact (below_size (by repeat (first | (with_reducible first | exact HB.out | apply below_alloc | apply pw_below_drewN | apply below_drew1 | refine below_set ?_ GE190.out) | exact HB.out))) : w.heap.size ≤ gb195))
                        have n5_ := Aside0.mk ((by rw [hg]; exact Nat.ne_of_lt (blk_lt (g := gb190) (o := .cells #[.int .u64 0, .int .u64 0, .int .u8 0, .bool false, .int .u16 0, .int .u16 0, .string (⟨#[]⟩ : ByteArray)] 32 (0, 0)) (by (with_reducible repeat (first | refine blk_drewN ?_ _ | refine blk_drew ?_ | refine blk_alloc ?_ _)); exact BK190.out)) : gb190 ≠ gb195))
                        have n6_ := Aside0.mk ((by rw [hg]; exact Nat.ne_of_gt (blk_lt (g := gb190) (o := .cells #[.int .u64 0, .int .u64 0, .int .u8 0, .bool false, .int .u16 0, .int .u16 0, .string (⟨#[]⟩ : ByteArray)] 32 (0, 0)) (by (with_reducible repeat (first | refine blk_drewN ?_ _ | refine blk_drew ?_ | refine blk_alloc ?_ _)); exact BK190.out)) : gb195 ≠ gb190))
                        clear BK190
                        clear HB
                        have BK190 := n0_
                        have HB := n1_
                        have BK195 := n2_
                        have GW195 := n3_
                        have GE195 := n4_
                        have NB190_195 := n5_
                        have NB195_190 := n6_
                        clear n0_ n1_ n2_ n3_ n4_ n5_ n6_
                        clear hb hbox hg
                        refine hK.out _ _ trivial (fun hHeld => ?_)
                        clear hK K
                        refine norm_ (a' := ?_) ?_ ?_
                        rotate_left
                        · show Act.put _ (some 5) _ = _
                          simp only [Act.put, List.setIfInBounds_toArray, List.set_cons_zero, List.set_cons_succ, i64_w, i32_w]
                          rfl
                        refine one_ (i := 15) (N := some 40) #[true, true, true, true, true, true, true, true, true, true, true, true, true, true, true, true, false, true, true, false, true, false] rfl rfl (one_of HT_.out (by kernel_rfl)) (by decide) (fun K hK => ?_)
                        refine goes_ Try.func32 (by kernel_rfl) rfl #[.string a0, .int .i64 16, .int .i64 2] (by rfl) rfl rfl (by (try simp only [List.map_toArray, List.map_cons, List.map_nil]); first | done | rfl | (simp only [List.length_drop, List.length_take]; rfl)) ?_
                        with_reducible refine (carouselref01_Get.calls kj7 a0 16 2 t194 _ A20.out).mono ?_
                        rintro e w47 ⟨rfl, hb⟩
                        refine ⟨_, rfl, ?_⟩
                        have n0_ := Aside0.mk (blk_below (g := gb190) (o := .cells #[.int .u64 0, .int .u64 0, .int .u8 0, .bool false, .int .u16 0, .int .u16 0, .string (⟨#[]⟩ : ByteArray)] 32 (0, 0)) (by (with_reducible repeat (first | refine blk_drewN ?_ _ | refine blk_drew ?_ | refine blk_alloc ?_ _)); exact BK190.out) hb)
                        have n1_ := Aside0.mk (blk_below (g := gb195) (o := .cells #[.int .u64 0, .int .u64 0, .int .u8 0, .bool false, .int .u16 0, .int .u16 0, .string (⟨#[]⟩ : ByteArray)] 32 (0, 0)) (by (with_reducible repeat (first | refine blk_drewN ?_ _ | refine blk_drew ?_ | refine blk_alloc ?_ _)); exact BK195.out) hb)
                        have n2_ := Aside0.mk (below_step (by repeat (first | (with_reducible first | exact HB.out | apply below_alloc | apply pw_below_drewN | apply below_drew1 | refine below_set ?_ GE190.out | refine below_set ?_ GE195.out) | exact HB.out)) hb)
                        clear BK190
                        clear BK195
                        clear HB
                        have BK190 := n0_
                        have BK195 := n1_
                        have HB := n2_
                        clear n0_ n1_ n2_
                        (try clear hb)
                        (try clear hb2)
                        (try clear hk)
                        (try clear hi)
                        refine hK.out _ _ trivial (fun hHeld => ?_)
                        clear hK K
                        refine norm_ (a' := ?_) ?_ ?_
                        rotate_left
                        · show Act.put _ (some 40) _ = _
                          simp only [Act.put, List.setIfInBounds_toArray, List.set_cons_zero, List.set_cons_succ, i64_w, i32_w]
                          rfl
                        refine pure_ (i := 16) (N := some 41) (v := ?_) (a' := ?_) #[true, true, true, true, true, true, true, true, true, true, true, true, true, true, true, true, true, true, true, false, true, false] rfl rfl (any_of HT_.out (by kernel_rfl)) (fun _ _ _ h => h) (Or.inl ⟨by rfl, ?_⟩) ?_ ?_
                        rotate_left
                        · intro w'
                          go_simp
                          with_reducible rfl
                        rotate_left
                        · simp only [Act.put, List.setIfInBounds_toArray, List.set_cons_zero, List.set_cons_succ, i64_w, i32_w]
                          rfl
                        refine pure_ (i := 19) (N := some 44) (v := ?_) (a' := ?_) #[true, true, true, true, true, true, true, true, true, true, true, true, true, true, true, true, true, true, true, true, true, false] rfl rfl (any_of HT_.out (by kernel_rfl)) (fun _ _ _ h => h) (Or.inl ⟨by rfl, ?_⟩) ?_ ?_
                        rotate_left
                        · intro w'
                          go_simp
                          with_reducible rfl
                        rotate_left
                        · simp only [Act.put, List.setIfInBounds_toArray, List.set_cons_zero, List.set_cons_succ, i64_w, i32_w]
                          rfl
                        exact norm_ (by first | (simp only [putAll, Act.put, List.setIfInBounds_toArray, List.set_cons_zero, List.set_cons_succ]; done) | (simp only [putAll, Act.put, List.setIfInBounds_toArray, List.set_cons_zero, List.set_cons_succ]; rfl)) (hCont (gb195) _ ⟨(by (with_reducible repeat (first | refine blk_drewN ?_ _ | refine blk_drew ?_ | refine blk_alloc ?_ _)); exact BK190.out), (by (with_reducible repeat (first | refine blk_drewN ?_ _ | refine blk_drew ?_ | refine blk_alloc ?_ _)); exact BK195.out), GW195.out, GE195.out, NB190_195.out, NB195_190.out, (by repeat (first | (with_reducible first | exact HB.out | apply below_alloc | apply pw_below_drewN | apply below_drew1 | refine below_set ?_ GE190.out | refine below_set ?_ GE195.out) | exact HB.out))⟩)
                    · skip
                      refine box_step ?hg (N := 5) ?hd (cs := #[.int .u64 0, .int .u64 0, .int .u8 0, .bool false, .int .u16 0, .int .u16 0, .string (⟨#[]⟩ : ByteArray)]) (t := 32) ?hr ?_; (case hd => rfl); (case hg => rfl); (case hr => first | (go_simp; done) | (go_simp; rfl))
                      intro gb195 hg w45 hbox hb
                      have n0_ := Aside0.mk (blk_below (g := gb190) (o := .cells #[.int .u64 0, .int .u64 0, .int .u8 0, .bool false, .int .u16 0, .int .u16 0, .string (⟨#[]⟩ : ByteArray)] 32 (0, 0)) (by (with_reducible repeat (first | refine blk_drewN ?_ _ | refine blk_drew ?_ | refine blk_alloc ?_ _)); exact BK190.out) hb)
                      have n1_ := Aside0.mk (below_step (by repeat (first | (with_reducible first | exact HB.out | apply below_alloc | apply pw_below_drewN | apply below_drew1 | refine below_set ?_ GE190.out) | exact HB.out)) hb)
                      have n2_ := Aside0.mk (hbox)
                      have n3_ := Aside0.mk ((by rw [hg]; exact (below_size (by repeat (first | (with_reducible first | exact HB.out | apply below_alloc | apply pw_below_drewN | apply below_drew1 | refine below_set ?_ GE190.out) | exact HB.out))) : w.heap.size ≤ gb195))
                      have n4_ := Aside0.mk ((by rw [hg]; exact (below_size (by repeat (first | (with_reducible first | exact HB.out | apply below_alloc | apply pw_below_drewN | apply below_drew1 | refine below_set ?_ GE190.out) | exact HB.out))) : w.heap.size ≤ gb195))
                      have n5_ := Aside0.mk ((by rw [hg]; exact Nat.ne_of_lt (blk_lt (g := gb190) (o := .cells #[.int .u64 0, .int .u64 0, .int .u8 0, .bool false, .int .u16 0, .int .u16 0, .string (⟨#[]⟩ : ByteArray)] 32 (0, 0)) (by (with_reducible repeat (first | refine blk_drewN ?_ _ | refine blk_drew ?_ | refine blk_alloc ?_ _)); exact BK190.out)) : gb190 ≠ gb195))
                      have n6_ := Aside0.mk ((by rw [hg]; exact Nat.ne_of_gt (blk_lt (g := gb190) (o := .cells #[.int .u64 0, .int .u64 0, .int .u8 0, .bool false, .int .u16 0, .int .u16 0, .string (⟨#[]⟩ : ByteArray)] 32 (0, 0)) (by (with_reducible repeat (first | refine blk_drewN ?_ _ | refine blk_drew ?_ | refine blk_alloc ?_ _)); exact BK190.out)) : gb195 ≠ gb190))
                      clear BK190
                      clear HB
                      have BK190 := n0_
                      have HB := n1_
                      have BK195 := n2_
                      have GW195 := n3_
                      have GE195 := n4_
                      have NB190_195 := n5_
                      have NB195_190 := n6_
                      clear n0_ n1_ n2_ n3_ n4_ n5_ n6_
                      clear hb hbox hg
                      refine hK.out _ _ trivial (fun hHeld => ?_)
                      clear hK K
                      refine norm_ (a' := ?_) ?_ ?_
                      rotate_left
                      · show Act.put _ (some 5) _ = _
                        simp only [Act.put, List.setIfInBounds_toArray, List.set_cons_zero, List.set_cons_succ, i64_w, i32_w]
                        rfl
                      refine one_ (i := 3) (N := some 28) #[true, true, true, true, true, true, true, true, true, true, true, true, true, true, true, false, false, true, true, false, true, false] rfl rfl (one_of HT_.out (by kernel_rfl)) (by decide) (fun K hK => ?_)
                      refine goes_ Try.func32 (by kernel_rfl) rfl #[.string a0, .int .i64 6, .int .i64 6] (by rfl) rfl rfl (by (try simp only [List.map_toArray, List.map_cons, List.map_nil]); first | done | rfl | (simp only [List.length_drop, List.length_take]; rfl)) ?_
                      with_reducible refine (carouselref01_Get.calls kj7 a0 6 6 t193 _ A19.out).mono ?_
                      rintro e w46 ⟨rfl, hb⟩
                      refine ⟨_, rfl, ?_⟩
                      have n0_ := Aside0.mk (blk_below (g := gb190) (o := .cells #[.int .u64 0, .int .u64 0, .int .u8 0, .bool false, .int .u16 0, .int .u16 0, .string (⟨#[]⟩ : ByteArray)] 32 (0, 0)) (by (with_reducible repeat (first | refine blk_drewN ?_ _ | refine blk_drew ?_ | refine blk_alloc ?_ _)); exact BK190.out) hb)
                      have n1_ := Aside0.mk (blk_below (g := gb195) (o := .cells #[.int .u64 0, .int .u64 0, .int .u8 0, .bool false, .int .u16 0, .int .u16 0, .string (⟨#[]⟩ : ByteArray)] 32 (0, 0)) (by (with_reducible repeat (first | refine blk_drewN ?_ _ | refine blk_drew ?_ | refine blk_alloc ?_ _)); exact BK195.out) hb)
                      have n2_ := Aside0.mk (below_step (by repeat (first | (with_reducible first | exact HB.out | apply below_alloc | apply pw_below_drewN | apply below_drew1 | refine below_set ?_ GE190.out | refine below_set ?_ GE195.out) | exact HB.out)) hb)
                      clear BK190
                      clear BK195
                      clear HB
                      have BK190 := n0_
                      have BK195 := n1_
                      have HB := n2_
                      clear n0_ n1_ n2_
                      (try clear hb)
                      (try clear hb2)
                      (try clear hk)
                      (try clear hi)
                      refine hK.out _ _ trivial (fun hHeld => ?_)
                      clear hK K
                      refine norm_ (a' := ?_) ?_ ?_
                      rotate_left
                      · show Act.put _ (some 28) _ = _
                        simp only [Act.put, List.setIfInBounds_toArray, List.set_cons_zero, List.set_cons_succ, i64_w, i32_w]
                        rfl
                      refine one_ (i := 15) (N := some 40) #[true, true, true, true, true, true, true, true, true, true, true, true, true, true, true, true, false, true, true, false, true, false] rfl rfl (one_of HT_.out (by kernel_rfl)) (by decide) (fun K hK => ?_)
                      refine goes_ Try.func32 (by kernel_rfl) rfl #[.string a0, .int .i64 16, .int .i64 2] (by rfl) rfl rfl (by (try simp only [List.map_toArray, List.map_cons, List.map_nil]); first | done | rfl | (simp only [List.length_drop, List.length_take]; rfl)) ?_
                      with_reducible refine (carouselref01_Get.calls kj7 a0 16 2 t194 _ A20.out).mono ?_
                      rintro e w47 ⟨rfl, hb⟩
                      refine ⟨_, rfl, ?_⟩
                      have n0_ := Aside0.mk (blk_below (g := gb190) (o := .cells #[.int .u64 0, .int .u64 0, .int .u8 0, .bool false, .int .u16 0, .int .u16 0, .string (⟨#[]⟩ : ByteArray)] 32 (0, 0)) (by (with_reducible repeat (first | refine blk_drewN ?_ _ | refine blk_drew ?_ | refine blk_alloc ?_ _)); exact BK190.out) hb)
                      have n1_ := Aside0.mk (blk_below (g := gb195) (o := .cells #[.int .u64 0, .int .u64 0, .int .u8 0, .bool false, .int .u16 0, .int .u16 0, .string (⟨#[]⟩ : ByteArray)] 32 (0, 0)) (by (with_reducible repeat (first | refine blk_drewN ?_ _ | refine blk_drew ?_ | refine blk_alloc ?_ _)); exact BK195.out) hb)
                      have n2_ := Aside0.mk (below_step (by repeat (first | (with_reducible first | exact HB.out | apply below_alloc | apply pw_below_drewN | apply below_drew1 | refine below_set ?_ GE190.out | refine below_set ?_ GE195.out) | exact HB.out)) hb)
                      clear BK190
                      clear BK195
                      clear HB
                      have BK190 := n0_
                      have BK195 := n1_
                      have HB := n2_
                      clear n0_ n1_ n2_
                      (try clear hb)
                      (try clear hb2)
                      (try clear hk)
                      (try clear hi)
                      refine hK.out _ _ trivial (fun hHeld => ?_)
                      clear hK K
                      refine norm_ (a' := ?_) ?_ ?_
                      rotate_left
                      · show Act.put _ (some 40) _ = _
                        simp only [Act.put, List.setIfInBounds_toArray, List.set_cons_zero, List.set_cons_succ, i64_w, i32_w]
                        rfl
                      refine pure_ (i := 16) (N := some 41) (v := ?_) (a' := ?_) #[true, true, true, true, true, true, true, true, true, true, true, true, true, true, true, true, true, true, true, false, true, false] rfl rfl (any_of HT_.out (by kernel_rfl)) (fun _ _ _ h => h) (Or.inl ⟨by rfl, ?_⟩) ?_ ?_
                      rotate_left
                      · intro w'
                        go_simp
                        with_reducible rfl
                      rotate_left
                      · simp only [Act.put, List.setIfInBounds_toArray, List.set_cons_zero, List.set_cons_succ, i64_w, i32_w]
                        rfl
                      refine pure_ (i := 19) (N := some 44) (v := ?_) (a' := ?_) #[true, true, true, true, true, true, true, true, true, true, true, true, true, true, true, true, true, true, true, true, true, false] rfl rfl (any_of HT_.out (by kernel_rfl)) (fun _ _ _ h => h) (Or.inl ⟨by rfl, ?_⟩) ?_ ?_
                      rotate_left
                      · intro w'
                        go_simp
                        with_reducible rfl
                      rotate_left
                      · simp only [Act.put, List.setIfInBounds_toArray, List.set_cons_zero, List.set_cons_succ, i64_w, i32_w]
                        rfl
                      exact norm_ (by first | (simp only [putAll, Act.put, List.setIfInBounds_toArray, List.set_cons_zero, List.set_cons_succ]; done) | (simp only [putAll, Act.put, List.setIfInBounds_toArray, List.set_cons_zero, List.set_cons_succ]; rfl)) (hCont (gb195) _ ⟨(by (with_reducible repeat (first | refine blk_drewN ?_ _ | refine blk_drew ?_ | refine blk_alloc ?_ _)); exact BK190.out), (by (with_reducible repeat (first | refine blk_drewN ?_ _ | refine blk_drew ?_ | refine blk_alloc ?_ _)); exact BK195.out), GW195.out, GE195.out, NB190_195.out, NB195_190.out, (by repeat (first | (with_reducible first | exact HB.out | apply below_alloc | apply pw_below_drewN | apply below_drew1 | refine below_set ?_ GE190.out | refine below_set ?_ GE195.out) | exact HB.out))⟩)
                  · skip
                    refine box_step ?hg (N := 5) ?hd (cs := #[.int .u64 0, .int .u64 0, .int .u8 0, .bool false, .int .u16 0, .int .u16 0, .string (⟨#[]⟩ : ByteArray)]) (t := 32) ?hr ?_; (case hd => rfl); (case hg => rfl); (case hr => first | (go_simp; done) | (go_simp; rfl))
                    intro gb195 hg w44 hbox hb
                    have n0_ := Aside0.mk (blk_below (g := gb190) (o := .cells #[.int .u64 0, .int .u64 0, .int .u8 0, .bool false, .int .u16 0, .int .u16 0, .string (⟨#[]⟩ : ByteArray)] 32 (0, 0)) (by (with_reducible repeat (first | refine blk_drewN ?_ _ | refine blk_drew ?_ | refine blk_alloc ?_ _)); exact BK190.out) hb)
                    have n1_ := Aside0.mk (below_step (by repeat (first | (with_reducible first | exact HB.out | apply below_alloc | apply pw_below_drewN | apply below_drew1 | refine below_set ?_ GE190.out) | exact HB.out)) hb)
                    have n2_ := Aside0.mk (hbox)
                    have n3_ := Aside0.mk ((by rw [hg]; exact (below_size (by repeat (first | (with_reducible first | exact HB.out | apply below_alloc | apply pw_below_drewN | apply below_drew1 | refine below_set ?_ GE190.out) | exact HB.out))) : w.heap.size ≤ gb195))
                    have n4_ := Aside0.mk ((by rw [hg]; exact (below_size (by repeat (first | (with_reducible first | exact HB.out | apply below_alloc | apply pw_below_drewN | apply below_drew1 | refine below_set ?_ GE190.out) | exact HB.out))) : w.heap.size ≤ gb195))
                    have n5_ := Aside0.mk ((by rw [hg]; exact Nat.ne_of_lt (blk_lt (g := gb190) (o := .cells #[.int .u64 0, .int .u64 0, .int .u8 0, .bool false, .int .u16 0, .int .u16 0, .string (⟨#[]⟩ : ByteArray)] 32 (0, 0)) (by (with_reducible repeat (first | refine blk_drewN ?_ _ | refine blk_drew ?_ | refine blk_alloc ?_ _)); exact BK190.out)) : gb190 ≠ gb195))
                    have n6_ := Aside0.mk ((by rw [hg]; exact Nat.ne_of_gt (blk_lt (g := gb190) (o := .cells #[.int .u64 0, .int .u64 0, .int .u8 0, .bool false, .int .u16 0, .int .u16 0, .string (⟨#[]⟩ : ByteArray)] 32 (0, 0)) (by (with_reducible repeat (first | refine blk_drewN ?_ _ | refine blk_drew ?_ | refine blk_alloc ?_ _)); exact BK190.out)) : gb195 ≠ gb190))
                    clear BK190
                    clear HB
                    have BK190 := n0_
                    have HB := n1_
                    have BK195 := n2_
                    have GW195 := n3_
                    have GE195 := n4_
                    have NB190_195 := n5_
                    have NB195_190 := n6_
                    clear n0_ n1_ n2_ n3_ n4_ n5_ n6_
                    clear hb hbox hg
                    refine hK.out _ _ trivial (fun hHeld => ?_)
                    clear hK K
                    refine norm_ (a' := ?_) ?_ ?_
                    rotate_left
                    · show Act.put _ (some 5) _ = _
                      simp only [Act.put, List.setIfInBounds_toArray, List.set_cons_zero, List.set_cons_succ, i64_w, i32_w]
                      rfl
                    refine one_ (i := 1) (N := some 26) #[true, true, true, false, true, true, true, true, true, true, true, true, true, true, true, false, false, true, true, false, true, false] rfl rfl (one_of HT_.out (by kernel_rfl)) (by decide) (fun K hK => ?_)
                    refine goes_ Try.func32 (by kernel_rfl) rfl #[.string a0, .int .i64 0, .int .i64 6] (by rfl) rfl rfl (by (try simp only [List.map_toArray, List.map_cons, List.map_nil]); first | done | rfl | (simp only [List.length_drop, List.length_take]; rfl)) ?_
                    with_reducible refine (carouselref01_Get.calls kj7 a0 0 6 t192 _ A18.out).mono ?_
                    rintro e w45 ⟨rfl, hb⟩
                    refine ⟨_, rfl, ?_⟩
                    have n0_ := Aside0.mk (blk_below (g := gb190) (o := .cells #[.int .u64 0, .int .u64 0, .int .u8 0, .bool false, .int .u16 0, .int .u16 0, .string (⟨#[]⟩ : ByteArray)] 32 (0, 0)) (by (with_reducible repeat (first | refine blk_drewN ?_ _ | refine blk_drew ?_ | refine blk_alloc ?_ _)); exact BK190.out) hb)
                    have n1_ := Aside0.mk (blk_below (g := gb195) (o := .cells #[.int .u64 0, .int .u64 0, .int .u8 0, .bool false, .int .u16 0, .int .u16 0, .string (⟨#[]⟩ : ByteArray)] 32 (0, 0)) (by (with_reducible repeat (first | refine blk_drewN ?_ _ | refine blk_drew ?_ | refine blk_alloc ?_ _)); exact BK195.out) hb)
                    have n2_ := Aside0.mk (below_step (by repeat (first | (with_reducible first | exact HB.out | apply below_alloc | apply pw_below_drewN | apply below_drew1 | refine below_set ?_ GE190.out | refine below_set ?_ GE195.out) | exact HB.out)) hb)
                    clear BK190
                    clear BK195
                    clear HB
                    have BK190 := n0_
                    have BK195 := n1_
                    have HB := n2_
                    clear n0_ n1_ n2_
                    (try clear hb)
                    (try clear hb2)
                    (try clear hk)
                    (try clear hi)
                    refine hK.out _ _ trivial (fun hHeld => ?_)
                    clear hK K
                    refine norm_ (a' := ?_) ?_ ?_
                    rotate_left
                    · show Act.put _ (some 26) _ = _
                      simp only [Act.put, List.setIfInBounds_toArray, List.set_cons_zero, List.set_cons_succ, i64_w, i32_w]
                      rfl
                    refine one_ (i := 3) (N := some 28) #[true, true, true, true, true, true, true, true, true, true, true, true, true, true, true, false, false, true, true, false, true, false] rfl rfl (one_of HT_.out (by kernel_rfl)) (by decide) (fun K hK => ?_)
                    refine goes_ Try.func32 (by kernel_rfl) rfl #[.string a0, .int .i64 6, .int .i64 6] (by rfl) rfl rfl (by (try simp only [List.map_toArray, List.map_cons, List.map_nil]); first | done | rfl | (simp only [List.length_drop, List.length_take]; rfl)) ?_
                    with_reducible refine (carouselref01_Get.calls kj7 a0 6 6 t193 _ A19.out).mono ?_
                    rintro e w46 ⟨rfl, hb⟩
                    refine ⟨_, rfl, ?_⟩
                    have n0_ := Aside0.mk (blk_below (g := gb190) (o := .cells #[.int .u64 0, .int .u64 0, .int .u8 0, .bool false, .int .u16 0, .int .u16 0, .string (⟨#[]⟩ : ByteArray)] 32 (0, 0)) (by (with_reducible repeat (first | refine blk_drewN ?_ _ | refine blk_drew ?_ | refine blk_alloc ?_ _)); exact BK190.out) hb)
                    have n1_ := Aside0.mk (blk_below (g := gb195) (o := .cells #[.int .u64 0, .int .u64 0, .int .u8 0, .bool false, .int .u16 0, .int .u16 0, .string (⟨#[]⟩ : ByteArray)] 32 (0, 0)) (by (with_reducible repeat (first | refine blk_drewN ?_ _ | refine blk_drew ?_ | refine blk_alloc ?_ _)); exact BK195.out) hb)
                    have n2_ := Aside0.mk (below_step (by repeat (first | (with_reducible first | exact HB.out | apply below_alloc | apply pw_below_drewN | apply below_drew1 | refine below_set ?_ GE190.out | refine below_set ?_ GE195.out) | exact HB.out)) hb)
                    clear BK190
                    clear BK195
                    clear HB
                    have BK190 := n0_
                    have BK195 := n1_
                    have HB := n2_
                    clear n0_ n1_ n2_
                    (try clear hb)
                    (try clear hb2)
                    (try clear hk)
                    (try clear hi)
                    refine hK.out _ _ trivial (fun hHeld => ?_)
                    clear hK K
                    refine norm_ (a' := ?_) ?_ ?_
                    rotate_left
                    · show Act.put _ (some 28) _ = _
                      simp only [Act.put, List.setIfInBounds_toArray, List.set_cons_zero, List.set_cons_succ, i64_w, i32_w]
                      rfl
                    refine one_ (i := 15) (N := some 40) #[true, true, true, true, true, true, true, true, true, true, true, true, true, true, true, true, false, true, true, false, true, false] rfl rfl (one_of HT_.out (by kernel_rfl)) (by decide) (fun K hK => ?_)
                    refine goes_ Try.func32 (by kernel_rfl) rfl #[.string a0, .int .i64 16, .int .i64 2] (by rfl) rfl rfl (by (try simp only [List.map_toArray, List.map_cons, List.map_nil]); first | done | rfl | (simp only [List.length_drop, List.length_take]; rfl)) ?_
                    with_reducible refine (carouselref01_Get.calls kj7 a0 16 2 t194 _ A20.out).mono ?_
                    rintro e w47 ⟨rfl, hb⟩
                    refine ⟨_, rfl, ?_⟩
                    have n0_ := Aside0.mk (blk_below (g := gb190) (o := .cells #[.int .u64 0, .int .u64 0, .int .u8 0, .bool false, .int .u16 0, .int .u16 0, .string (⟨#[]⟩ : ByteArray)] 32 (0, 0)) (by (with_reducible repeat (first | refine blk_drewN ?_ _ | refine blk_drew ?_ | refine blk_alloc ?_ _)); exact BK190.out) hb)
                    have n1_ := Aside0.mk (blk_below (g := gb195) (o := .cells #[.int .u64 0, .int .u64 0, .int .u8 0, .bool false, .int .u16 0, .int .u16 0, .string (⟨#[]⟩ : ByteArray)] 32 (0, 0)) (by (with_reducible repeat (first | refine blk_drewN ?_ _ | refine blk_drew ?_ | refine blk_alloc ?_ _)); exact BK195.out) hb)
                    have n2_ := Aside0.mk (below_step (by repeat (first | (with_reducible first | exact HB.out | apply below_alloc | apply pw_below_drewN | apply below_drew1 | refine below_set ?_ GE190.out | refine below_set ?_ GE195.out) | exact HB.out)) hb)
                    clear BK190
                    clear BK195
                    clear HB
                    have BK190 := n0_
                    have BK195 := n1_
                    have HB := n2_
                    clear n0_ n1_ n2_
                    (try clear hb)
                    (try clear hb2)
                    (try clear hk)
                    (try clear hi)
                    refine hK.out _ _ trivial (fun hHeld => ?_)
                    clear hK K
                    refine norm_ (a' := ?_) ?_ ?_
                    rotate_left
                    · show Act.put _ (some 40) _ = _
                      simp only [Act.put, List.setIfInBounds_toArray, List.set_cons_zero, List.set_cons_succ, i64_w, i32_w]
                      rfl
                    refine pure_ (i := 16) (N := some 41) (v := ?_) (a' := ?_) #[true, true, true, true, true, true, true, true, true, true, true, true, true, true, true, true, true, true, true, false, true, false] rfl rfl (any_of HT_.out (by kernel_rfl)) (fun _ _ _ h => h) (Or.inl ⟨by rfl, ?_⟩) ?_ ?_
                    rotate_left
                    · intro w'
                      go_simp
                      with_reducible rfl
                    rotate_left
                    · simp only [Act.put, List.setIfInBounds_toArray, List.set_cons_zero, List.set_cons_succ, i64_w, i32_w]
                      rfl
                    refine pure_ (i := 19) (N := some 44) (v := ?_) (a' := ?_) #[true, true, true, true, true, true, true, true, true, true, true, true, true, true, true, true, true, true, true, true, true, false] rfl rfl (any_of HT_.out (by kernel_rfl)) (fun _ _ _ h => h) (Or.inl ⟨by rfl, ?_⟩) ?_ ?_
                    rotate_left
                    · intro w'
                      go_simp
                      with_reducible rfl
                    rotate_left
                    · simp only [Act.put, List.setIfInBounds_toArray, List.set_cons_zero, List.set_cons_succ, i64_w, i32_w]
                      rfl
                    exact norm_ (by first | (simp only [putAll, Act.put, List.setIfInBounds_toArray, List.set_cons_zero, List.set_cons_succ]; done) | (simp only [putAll, Act.put, List.setIfInBounds_toArray, List.set_cons_zero, List.set_cons_succ]; rfl)) (hCont (gb195) _ ⟨(by (with_reducible repeat (first | refine blk_drewN ?_ _ | refine blk_drew ?_ | refine blk_alloc ?_ _)); exact BK190.out), (by (with_reducible repeat (first | refine blk_drewN ?_ _ | refine blk_drew ?_ | refine blk_alloc ?_ _)); exact BK195.out), GW195.out, GE195.out, NB190_195.out, NB195_190.out, (by repeat (first | (with_reducible first | exact HB.out | apply below_alloc | apply pw_below_drewN | apply below_drew1 | refine below_set ?_ GE190.out | refine below_set ?_ GE195.out) | exact HB.out))⟩)
                rintro gb195 w48 ⟨h0_, h1_, h2_, h3_, h4_, h5_, h6_⟩
                have n0_ : Aside0 (w48.heap[gb190]? = some (.cells #[.int .u64 0, .int .u64 0, .int .u8 0, .bool false, .int .u16 0, .int .u16 0, .string (⟨#[]⟩ : ByteArray)] 32 (0, 0))) := ⟨h0_⟩
                have n1_ : Aside0 (w48.heap[gb195]? = some (.cells #[.int .u64 0, .int .u64 0, .int .u8 0, .bool false, .int .u16 0, .int .u16 0, .string (⟨#[]⟩ : ByteArray)] 32 (0, 0))) := ⟨h1_⟩
                have n2_ : Aside0 (w.heap.size ≤ gb195) := ⟨h2_⟩
                have n3_ : Aside0 (w.heap.size ≤ gb195) := ⟨h3_⟩
                have n4_ : Aside0 (gb190 ≠ gb195) := ⟨h4_⟩
                have n5_ : Aside0 (gb195 ≠ gb190) := ⟨h5_⟩
                have n6_ : Aside0 (Below w.heap.size w w48) := ⟨h6_⟩
                clear BK190
                clear HB
                clear h0_ h1_ h2_ h3_ h4_ h5_ h6_
                have BK190 := n0_
                have BK195 := n1_
                have GW195 := n2_
                have GE195 := n3_
                have NB190_195 := n4_
                have NB195_190 := n5_
                have HB := n6_
                clear n0_ n1_ n2_ n3_ n4_ n5_ n6_
                have hHeld := trivial
                refine norm_ (a' := ?_) ?_ ?_
                rotate_left
                · simp only [putAll, Act.put, List.setIfInBounds_toArray, List.set_cons_zero, List.set_cons_succ]
                  rfl
                refine one_ (i := 21) (N := none) #[true, true, true, true, true, true, true, true, true, true, true, true, true, true, true, true, true, true, true, true, true, true] rfl rfl (one_of HT_.out (by kernel_rfl)) (by decide) (fun K hK => ?_)
                have hs49 : w48.cell? ⟨gb195, 0, none⟩ = some (.int .u64 0) := (blk_cell BK195.out 0).trans rfl
                have hfs49 := blk_frozen BK195.out 0
                have hns49_0 := NB190_195.out
                have hms49_0 := NB195_190.out
                have hs50 : w48.cell? ⟨gb195, 1, none⟩ = some (.int .u64 0) := (blk_cell BK195.out 1).trans rfl
                have hfs50 := blk_frozen BK195.out 1
                have hns50_0 := NB190_195.out
                have hms50_0 := NB195_190.out
                have hs51 : w48.cell? ⟨gb195, 2, none⟩ = some (.int .u8 0) := (blk_cell BK195.out 2).trans rfl
                have hfs51 := blk_frozen BK195.out 2
                have hns51_0 := NB190_195.out
                have hms51_0 := NB195_190.out
                have hs52 : w48.cell? ⟨gb195, 3, none⟩ = some (.bool false) := (blk_cell BK195.out 3).trans rfl
                have hfs52 := blk_frozen BK195.out 3
                have hns52_0 := NB190_195.out
                have hms52_0 := NB195_190.out
                have hs53 : w48.cell? ⟨gb195, 4, none⟩ = some (.int .u16 0) := (blk_cell BK195.out 4).trans rfl
                have hfs53 := blk_frozen BK195.out 4
                have hns53_0 := NB190_195.out
                have hms53_0 := NB195_190.out
                have hs54 : w48.cell? ⟨gb195, 5, none⟩ = some (.int .u16 0) := (blk_cell BK195.out 5).trans rfl
                have hfs54 := blk_frozen BK195.out 5
                have hns54_0 := NB190_195.out
                have hms54_0 := NB195_190.out
                have hs55 : w48.cell? ⟨gb195, 6, none⟩ = some (.string (⟨#[]⟩ : ByteArray)) := (blk_cell BK195.out 6).trans rfl
                have hfs55 := blk_frozen BK195.out 6
                have hns55_0 := NB190_195.out
                have hms55_0 := NB195_190.out
                refine skip_ (w1 := ?_) (by rfl) rfl ?_ ?_
                rotate_left
                · go_simp
                  rfl
                refine hK.out _ _ trivial (fun hHeld => ?_)
                clear hK K
                refine done_ (done_of HT_.out (by kernel_rfl)) ?_
                have hnb56 := NB195_190.out
                have hnc56 := NB190_195.out
                have hcz57_0 : w48.cell? ⟨gb195, 0, none⟩ = some (.int .u64 0) := (blk_cell BK195.out 0).trans rfl
                have hcz57_1 : w48.cell? ⟨gb195, 1, none⟩ = some (.int .u64 0) := (blk_cell BK195.out 1).trans rfl
                have hcz57_2 : w48.cell? ⟨gb195, 2, none⟩ = some (.int .u8 0) := (blk_cell BK195.out 2).trans rfl
                have hcz57_3 : w48.cell? ⟨gb195, 3, none⟩ = some (.bool false) := (blk_cell BK195.out 3).trans rfl
                have hcz57_4 : w48.cell? ⟨gb195, 4, none⟩ = some (.int .u16 0) := (blk_cell BK195.out 4).trans rfl
                have hcz57_5 : w48.cell? ⟨gb195, 5, none⟩ = some (.int .u16 0) := (blk_cell BK195.out 5).trans rfl
                have hcz57_6 : w48.cell? ⟨gb195, 6, none⟩ = some (.string (⟨#[]⟩ : ByteArray)) := (blk_cell BK195.out 6).trans rfl
                have hfz57_0 := blk_frozen BK195.out 0
                have hfz57_1 := blk_frozen BK195.out 1
                have hfz57_2 := blk_frozen BK195.out 2
                have hfz57_3 := blk_frozen BK195.out 3
                have hfz57_4 := blk_frozen BK195.out 4
                have hfz57_5 := blk_frozen BK195.out 5
                have hfz57_6 := blk_frozen BK195.out 6
                go_upto_region 11 with (first | ((with_reducible refine gate_callee (f := 33) rfl ?_); refine goesL_ (some 47) rfl rfl Try.func33 (by kernel_rfl) rfl #[.int .u64 t193] rfl (by (try simp only [List.map_toArray, List.map_cons, List.map_nil]); first | done | rfl | (simp only [List.length_drop, List.length_take]; rfl)) ?_; (with_reducible refine (carouselref02_Group.calls t193 false _ A22.out).mono ?_); rintro e w' ⟨rfl, ⟨nd, rfl⟩⟩; refine ⟨_, rfl, ?_⟩))
                (try simp only [Act.put, List.setIfInBounds_toArray, List.set_cons_zero, List.set_cons_succ])
                go_cut [56] (fun v56 wc => ∃ (kq : Nat) (x56_40 : Bool), v56 = .bool x56_40 ∧ Aside0 (carouselref03_Open.j1 kq x56_40 t192 t193 ((IntKind.u64.wrap (Int.tdiv t191 8192)) % 256) ((Int.tmod (IntKind.u64.wrap (Int.tdiv t191 4096)) 2) == 1) (IntKind.u16.wrap (Int.tmod t191 4096)) (IntKind.u16.wrap (t194)) (a0.extract 18 a0.size) = some (r1, r2, r3, r4, r5, r6, r7, r8)) ∧ Aside0 (kq ≤ kj7) ∧ Aside0 (wc.heap[gb190]? = some (.cells #[.int .u64 0, .int .u64 0, .int .u8 0, .bool false, .int .u16 0, .int .u16 0, .string (⟨#[]⟩ : ByteArray)] 32 (0, 0))) ∧ Aside0 (wc.heap[gb195]? = some (.cells #[.int .u64 t192, .int .u64 t193, .int .u8 ((IntKind.u64.wrap (Int.tdiv t191 8192)) % 256), .bool ((Int.tmod (IntKind.u64.wrap (Int.tdiv t191 4096)) 2) == 1), .int .u16 (IntKind.u16.wrap (Int.tmod t191 4096)), .int .u16 (IntKind.u16.wrap (t194)), .string (a0.extract 18 a0.size)] 32 (0, 0))) ∧ Aside0 (Below w.heap.size w wc))
                case first =>
                  have H := HC41.out
                  clear HC41
                  by_cases c58 : (IntKind.u16.wrap (Int.tmod t191 4096)) = 0
                  · rw [if_pos c58] at H
                    have c58b0 : ((IntKind.u16.wrap (Int.tmod t191 4096)) == 0) = true := beq_iff_eq.mpr c58
                    have c58b1 : ((IntKind.u16.wrap (Int.tmod t191 4096)) != 0) = false := bne_eq_false_iff_eq.mpr c58
                    clear c58
                    (first | rw [c58b0] | (simp only [i64_w, i32_w]; rw [c58b0]) | skip)
                    have H' := Aside0.mk H
                    clear H
                    have hnb59 := NB195_190.out
                    have hnc59 := NB190_195.out
                    have hcz60_0 : w48.cell? ⟨gb195, 0, none⟩ = some (.int .u64 0) := (blk_cell BK195.out 0).trans rfl
                    have hcz60_1 : w48.cell? ⟨gb195, 1, none⟩ = some (.int .u64 0) := (blk_cell BK195.out 1).trans rfl
                    have hcz60_2 : w48.cell? ⟨gb195, 2, none⟩ = some (.int .u8 0) := (blk_cell BK195.out 2).trans rfl
                    have hcz60_3 : w48.cell? ⟨gb195, 3, none⟩ = some (.bool false) := (blk_cell BK195.out 3).trans rfl
                    have hcz60_4 : w48.cell? ⟨gb195, 4, none⟩ = some (.int .u16 0) := (blk_cell BK195.out 4).trans rfl
                    have hcz60_5 : w48.cell? ⟨gb195, 5, none⟩ = some (.int .u16 0) := (blk_cell BK195.out 5).trans rfl
                    have hcz60_6 : w48.cell? ⟨gb195, 6, none⟩ = some (.string (⟨#[]⟩ : ByteArray)) := (blk_cell BK195.out 6).trans rfl
                    have hfz60_0 := blk_frozen BK195.out 0
                    have hfz60_1 := blk_frozen BK195.out 1
                    have hfz60_2 := blk_frozen BK195.out 2
                    have hfz60_3 := blk_frozen BK195.out 3
                    have hfz60_4 := blk_frozen BK195.out 4
                    have hfz60_5 := blk_frozen BK195.out 5
                    have hfz60_6 := blk_frozen BK195.out 6
                    go_wp2
                    go_meet
                    case rel => exact ⟨_, (true), (by first | rfl | (simp; done) | (simp [*]; done)), H', ⟨by have := HJ7.out; first | omega | exact Nat.le_refl _⟩, ⟨by (with_reducible repeat (first | refine blk_drewN ?_ _ | refine blk_drew ?_ | refine blk_alloc ?_ _)); refine blk_far ?_ NB190_195.out _; (with_reducible repeat (first | refine blk_drewN ?_ _ | refine blk_drew ?_ | refine blk_alloc ?_ _)); refine blk_far ?_ NB190_195.out _; (with_reducible repeat (first | refine blk_drewN ?_ _ | refine blk_drew ?_ | refine blk_alloc ?_ _)); refine blk_far ?_ NB190_195.out _; (with_reducible repeat (first | refine blk_drewN ?_ _ | refine blk_drew ?_ | refine blk_alloc ?_ _)); refine blk_far ?_ NB190_195.out _; (with_reducible repeat (first | refine blk_drewN ?_ _ | refine blk_drew ?_ | refine blk_alloc ?_ _)); refine blk_far ?_ NB190_195.out _; (with_reducible repeat (first | refine blk_drewN ?_ _ | refine blk_drew ?_ | refine blk_alloc ?_ _)); refine blk_far ?_ NB190_195.out _; (with_reducible repeat (first | refine blk_drewN ?_ _ | refine blk_drew ?_ | refine blk_alloc ?_ _)); refine blk_far ?_ NB190_195.out _; (with_reducible repeat (first | refine blk_drewN ?_ _ | refine blk_drew ?_ | refine blk_alloc ?_ _)); exact BK190.out⟩, ⟨by (with_reducible repeat (first | refine blk_drewN ?_ _ | refine blk_drew ?_ | refine blk_alloc ?_ _)); refine blk_put (cs := #[.int .u64 t192, .int .u64 t193, .int .u8 ((IntKind.u64.wrap (Int.tdiv t191 8192)) % 256), .bool ((Int.tmod (IntKind.u64.wrap (Int.tdiv t191 4096)) 2) == 1), .int .u16 (IntKind.u16.wrap (Int.tmod t191 4096)), .int .u16 (IntKind.u16.wrap (t194)), .string (⟨#[]⟩ : ByteArray)]) ?_ 6 _ rfl; (with_reducible repeat (first | refine blk_drewN ?_ _ | refine blk_drew ?_ | refine blk_alloc ?_ _)); refine blk_put (cs := #[.int .u64 t192, .int .u64 t193, .int .u8 ((IntKind.u64.wrap (Int.tdiv t191 8192)) % 256), .bool ((Int.tmod (IntKind.u64.wrap (Int.tdiv t191 4096)) 2) == 1), .int .u16 (IntKind.u16.wrap (Int.tmod t191 4096)), .int .u16 0, .string (⟨#[]⟩ : ByteArray)]) ?_ 5 _ rfl; (with_reducible repeat (first | refine blk_drewN ?_ _ | refine blk_drew ?_ | refine blk_alloc ?_ _)); refine blk_put (cs := #[.int .u64 t192, .int .u64 t193, .int .u8 ((IntKind.u64.wrap (Int.tdiv t191 8192)) % 256), .bool ((Int.tmod (IntKind.u64.wrap (Int.tdiv t191 4096)) 2) == 1), .int .u16 0, .int .u16 0, .string (⟨#[]⟩ : ByteArray)]) ?_ 4 _ rfl; (with_reducible repeat (first | refine blk_drewN ?_ _ | refine blk_drew ?_ | refine blk_alloc ?_ _)); refine blk_put (cs := #[.int .u64 t192, .int .u64 t193, .int .u8 ((IntKind.u64.wrap (Int.tdiv t191 8192)) % 256), .bool false, .int .u16 0, .int .u16 0, .string (⟨#[]⟩ : ByteArray)]) ?_ 3 _ rfl; (with_reducible repeat (first | refine blk_drewN ?_ _ | refine blk_drew ?_ | refine blk_alloc ?_ _)); refine blk_put (cs := #[.int .u64 t192, .int .u64 t193, .int .u8 0, .bool false, .int .u16 0, .int .u16 0, .string (⟨#[]⟩ : ByteArray)]) ?_ 2 _ rfl; (with_reducible repeat (first | refine blk_drewN ?_ _ | refine blk_drew ?_ | refine blk_alloc ?_ _)); refine blk_put (cs := #[.int .u64 t192, .int .u64 0, .int .u8 0, .bool false, .int .u16 0, .int .u16 0, .string (⟨#[]⟩ : ByteArray)]) ?_ 1 _ rfl; (with_reducible repeat (first | refine blk_drewN ?_ _ | refine blk_drew ?_ | refine blk_alloc ?_ _)); refine blk_put (cs := #[.int .u64 0, .int .u64 0, .int .u8 0, .bool false, .int .u16 0, .int .u16 0, .string (⟨#[]⟩ : ByteArray)]) ?_ 0 _ rfl; (with_reducible repeat (first | refine blk_drewN ?_ _ | refine blk_drew ?_ | refine blk_alloc ?_ _)); exact BK195.out⟩, ⟨by repeat (first | (with_reducible first | exact HB.out | apply below_alloc | apply pw_below_drewN | apply below_drew1 | refine below_set ?_ GE190.out | refine below_set ?_ GE195.out) | exact HB.out)⟩⟩
                  · rw [if_neg c58] at H
                    have c58b0 : ((IntKind.u16.wrap (Int.tmod t191 4096)) == 0) = false := beq_eq_false_iff_ne.mpr c58
                    have c58b1 : ((IntKind.u16.wrap (Int.tmod t191 4096)) != 0) = true := bne_iff_ne.mpr c58
                    (first | rw [c58b0] | (simp only [i64_w, i32_w]; rw [c58b0]) | skip)
                    have H' := Aside0.mk H
                    clear H
                    have hnb61 := NB195_190.out
                    have hnc61 := NB190_195.out
                    have hcz62_0 : w48.cell? ⟨gb195, 0, none⟩ = some (.int .u64 0) := (blk_cell BK195.out 0).trans rfl
                    have hcz62_1 : w48.cell? ⟨gb195, 1, none⟩ = some (.int .u64 0) := (blk_cell BK195.out 1).trans rfl
                    have hcz62_2 : w48.cell? ⟨gb195, 2, none⟩ = some (.int .u8 0) := (blk_cell BK195.out 2).trans rfl
                    have hcz62_3 : w48.cell? ⟨gb195, 3, none⟩ = some (.bool false) := (blk_cell BK195.out 3).trans rfl
                    have hcz62_4 : w48.cell? ⟨gb195, 4, none⟩ = some (.int .u16 0) := (blk_cell BK195.out 4).trans rfl
                    have hcz62_5 : w48.cell? ⟨gb195, 5, none⟩ = some (.int .u16 0) := (blk_cell BK195.out 5).trans rfl
                    have hcz62_6 : w48.cell? ⟨gb195, 6, none⟩ = some (.string (⟨#[]⟩ : ByteArray)) := (blk_cell BK195.out 6).trans rfl
                    have hfz62_0 := blk_frozen BK195.out 0
                    have hfz62_1 := blk_frozen BK195.out 1
                    have hfz62_2 := blk_frozen BK195.out 2
                    have hfz62_3 := blk_frozen BK195.out 3
                    have hfz62_4 := blk_frozen BK195.out 4
                    have hfz62_5 := blk_frozen BK195.out 5
                    have hfz62_6 := blk_frozen BK195.out 6
                    go_wp2
                    go_meet
                    case rel => exact ⟨_, (((IntKind.u16.wrap (Int.tmod t191 4096)) == 4095)), (by first | rfl | (simp; done) | (simp [*]; done)), H', ⟨by have := HJ7.out; first | omega | exact Nat.le_refl _⟩, ⟨by (with_reducible repeat (first | refine blk_drewN ?_ _ | refine blk_drew ?_ | refine blk_alloc ?_ _)); refine blk_far ?_ NB190_195.out _; (with_reducible repeat (first | refine blk_drewN ?_ _ | refine blk_drew ?_ | refine blk_alloc ?_ _)); refine blk_far ?_ NB190_195.out _; (with_reducible repeat (first | refine blk_drewN ?_ _ | refine blk_drew ?_ | refine blk_alloc ?_ _)); refine blk_far ?_ NB190_195.out _; (with_reducible repeat (first | refine blk_drewN ?_ _ | refine blk_drew ?_ | refine blk_alloc ?_ _)); refine blk_far ?_ NB190_195.out _; (with_reducible repeat (first | refine blk_drewN ?_ _ | refine blk_drew ?_ | refine blk_alloc ?_ _)); refine blk_far ?_ NB190_195.out _; (with_reducible repeat (first | refine blk_drewN ?_ _ | refine blk_drew ?_ | refine blk_alloc ?_ _)); refine blk_far ?_ NB190_195.out _; (with_reducible repeat (first | refine blk_drewN ?_ _ | refine blk_drew ?_ | refine blk_alloc ?_ _)); refine blk_far ?_ NB190_195.out _; (with_reducible repeat (first | refine blk_drewN ?_ _ | refine blk_drew ?_ | refine blk_alloc ?_ _)); exact BK190.out⟩, ⟨by (with_reducible repeat (first | refine blk_drewN ?_ _ | refine blk_drew ?_ | refine blk_alloc ?_ _)); refine blk_put (cs := #[.int .u64 t192, .int .u64 t193, .int .u8 ((IntKind.u64.wrap (Int.tdiv t191 8192)) % 256), .bool ((Int.tmod (IntKind.u64.wrap (Int.tdiv t191 4096)) 2) == 1), .int .u16 (IntKind.u16.wrap (Int.tmod t191 4096)), .int .u16 (IntKind.u16.wrap (t194)), .string (⟨#[]⟩ : ByteArray)]) ?_ 6 _ rfl; (with_reducible repeat (first | refine blk_drewN ?_ _ | refine blk_drew ?_ | refine blk_alloc ?_ _)); refine blk_put (cs := #[.int .u64 t192, .int .u64 t193, .int .u8 ((IntKind.u64.wrap (Int.tdiv t191 8192)) % 256), .bool ((Int.tmod (IntKind.u64.wrap (Int.tdiv t191 4096)) 2) == 1), .int .u16 (IntKind.u16.wrap (Int.tmod t191 4096)), .int .u16 0, .string (⟨#[]⟩ : ByteArray)]) ?_ 5 _ rfl; (with_reducible repeat (first | refine blk_drewN ?_ _ | refine blk_drew ?_ | refine blk_alloc ?_ _)); refine blk_put (cs := #[.int .u64 t192, .int .u64 t193, .int .u8 ((IntKind.u64.wrap (Int.tdiv t191 8192)) % 256), .bool ((Int.tmod (IntKind.u64.wrap (Int.tdiv t191 4096)) 2) == 1), .int .u16 0, .int .u16 0, .string (⟨#[]⟩ : ByteArray)]) ?_ 4 _ rfl; (with_reducible repeat (first | refine blk_drewN ?_ _ | refine blk_drew ?_ | refine blk_alloc ?_ _)); refine blk_put (cs := #[.int .u64 t192, .int .u64 t193, .int .u8 ((IntKind.u64.wrap (Int.tdiv t191 8192)) % 256), .bool false, .int .u16 0, .int .u16 0, .string (⟨#[]⟩ : ByteArray)]) ?_ 3 _ rfl; (with_reducible repeat (first | refine blk_drewN ?_ _ | refine blk_drew ?_ | refine blk_alloc ?_ _)); refine blk_put (cs := #[.int .u64 t192, .int .u64 t193, .int .u8 0, .bool false, .int .u16 0, .int .u16 0, .string (⟨#[]⟩ : ByteArray)]) ?_ 2 _ rfl; (with_reducible repeat (first | refine blk_drewN ?_ _ | refine blk_drew ?_ | refine blk_alloc ?_ _)); refine blk_put (cs := #[.int .u64 t192, .int .u64 0, .int .u8 0, .bool false, .int .u16 0, .int .u16 0, .string (⟨#[]⟩ : ByteArray)]) ?_ 1 _ rfl; (with_reducible repeat (first | refine blk_drewN ?_ _ | refine blk_drew ?_ | refine blk_alloc ?_ _)); refine blk_put (cs := #[.int .u64 0, .int .u64 0, .int .u8 0, .bool false, .int .u16 0, .int .u16 0, .string (⟨#[]⟩ : ByteArray)]) ?_ 0 _ rfl; (with_reducible repeat (first | refine blk_drewN ?_ _ | refine blk_drew ?_ | refine blk_alloc ?_ _)); exact BK195.out⟩, ⟨by repeat (first | (with_reducible first | exact HB.out | apply below_alloc | apply pw_below_drewN | apply below_drew1 | refine below_set ?_ GE190.out | refine below_set ?_ GE195.out) | exact HB.out)⟩⟩
                case rest =>
                  clear HC41
                  try clear p2
                  try clear c3
                  try clear c5
                  try clear c6
                  try clear c32
                  try clear c33
                  try clear c56
                  try clear c58
                  try clear c58b0
                  try clear c58b1
                  try clear c59
                  try clear c61
                  try clear hcz57_0
                  try clear hcz57_1
                  try clear hcz57_2
                  try clear hcz57_3
                  try clear hcz57_4
                  try clear hcz57_5
                  try clear hcz57_6
                  try clear hcz60_0
                  try clear hcz60_1
                  try clear hcz60_2
                  try clear hcz60_3
                  try clear hcz60_4
                  try clear hcz60_5
                  try clear hcz60_6
                  try clear hcz62_0
                  try clear hcz62_1
                  try clear hcz62_2
                  try clear hcz62_3
                  try clear hcz62_4
                  try clear hcz62_5
                  try clear hcz62_6
                  try clear hfz57_0
                  try clear hfz57_1
                  try clear hfz57_2
                  try clear hfz57_3
                  try clear hfz57_4
                  try clear hfz57_5
                  try clear hfz57_6
                  try clear hfz60_0
                  try clear hfz60_1
                  try clear hfz60_2
                  try clear hfz60_3
                  try clear hfz60_4
                  try clear hfz60_5
                  try clear hfz60_6
                  try clear hfz62_0
                  try clear hfz62_1
                  try clear hfz62_2
                  try clear hfz62_3
                  try clear hfz62_4
                  try clear hfz62_5
                  try clear hfz62_6
                  obtain ⟨kq, x56_40, rfl, HA, HJ40, BK190, BK195, HB⟩ := hcut
                  cases kq with
                  | zero => exact absurd HA.out (by simp [carouselref03_Open.j1])
                  | succ kj40 =>
                    have H := HA.out
                    clear HA
                    simp only [carouselref03_Open.j1] at H
                    by_cases c63 : x56_40 = true
                    · subst c63
                      have H1 : (some (0, 0, 0, false, 0, 0, (⟨#[]⟩ : ByteArray), 4)) = some (r1, r2, r3, r4, r5, r6, r7, r8) := by rw [if_pos rfl] at H; exact H
                      clear H
                      have H := H1
                      clear H1
                      simp only [Option.some.injEq, Prod.mk.injEq] at H
                      obtain ⟨rfl, rfl, rfl, rfl, rfl, rfl, rfl, rfl⟩ := H
                      have hnb64 := NB190_195.out
                      have hnc64 := NB195_190.out
                      have hcz65_0 : wc.cell? ⟨gb190, 0, none⟩ = some (.int .u64 0) := (blk_cell BK190.out 0).trans rfl
                      have hcz65_1 : wc.cell? ⟨gb190, 1, none⟩ = some (.int .u64 0) := (blk_cell BK190.out 1).trans rfl
                      have hcz65_2 : wc.cell? ⟨gb190, 2, none⟩ = some (.int .u8 0) := (blk_cell BK190.out 2).trans rfl
                      have hcz65_3 : wc.cell? ⟨gb190, 3, none⟩ = some (.bool false) := (blk_cell BK190.out 3).trans rfl
                      have hcz65_4 : wc.cell? ⟨gb190, 4, none⟩ = some (.int .u16 0) := (blk_cell BK190.out 4).trans rfl
                      have hcz65_5 : wc.cell? ⟨gb190, 5, none⟩ = some (.int .u16 0) := (blk_cell BK190.out 5).trans rfl
                      have hcz65_6 : wc.cell? ⟨gb190, 6, none⟩ = some (.string (⟨#[]⟩ : ByteArray)) := (blk_cell BK190.out 6).trans rfl
                      have hfz65_0 := blk_frozen BK190.out 0
                      have hfz65_1 := blk_frozen BK190.out 1
                      have hfz65_2 := blk_frozen BK190.out 2
                      have hfz65_3 := blk_frozen BK190.out 3
                      have hfz65_4 := blk_frozen BK190.out 4
                      have hfz65_5 := blk_frozen BK190.out 5
                      have hfz65_6 := blk_frozen BK190.out 6
                      go_wp2
                      refine bodyPost_ret (results_ct rfl _ _ gb190 32 #[.int .u64 0, .int .u64 0, .int .u8 0, .bool false, .int .u16 0, .int .u16 0, .string (⟨#[]⟩ : ByteArray)] (0, 0) _ rfl (by (with_reducible repeat (first | refine blk_drewN ?_ _ | refine blk_drew ?_ | refine blk_alloc ?_ _)); refine blk_put (cs := #[.int .u64 0, .int .u64 0, .int .u8 0, .bool false, .int .u16 0, .int .u16 0, .string (⟨#[]⟩ : ByteArray)]) ?_ 6 _ rfl; (with_reducible repeat (first | refine blk_drewN ?_ _ | refine blk_drew ?_ | refine blk_alloc ?_ _)); refine blk_put (cs := #[.int .u64 0, .int .u64 0, .int .u8 0, .bool false, .int .u16 0, .int .u16 0, .string (⟨#[]⟩ : ByteArray)]) ?_ 5 _ rfl; (with_reducible repeat (first | refine blk_drewN ?_ _ | refine blk_drew ?_ | refine blk_alloc ?_ _)); refine blk_put (cs := #[.int .u64 0, .int .u64 0, .int .u8 0, .bool false, .int .u16 0, .int .u16 0, .string (⟨#[]⟩ : ByteArray)]) ?_ 4 _ rfl; (with_reducible repeat (first | refine blk_drewN ?_ _ | refine blk_drew ?_ | refine blk_alloc ?_ _)); refine blk_put (cs := #[.int .u64 0, .int .u64 0, .int .u8 0, .bool false, .int .u16 0, .int .u16 0, .string (⟨#[]⟩ : ByteArray)]) ?_ 3 _ rfl; (with_reducible repeat (first | refine blk_drewN ?_ _ | refine blk_drew ?_ | refine blk_alloc ?_ _)); refine blk_put (cs := #[.int .u64 0, .int .u64 0, .int .u8 0, .bool false, .int .u16 0, .int .u16 0, .string (⟨#[]⟩ : ByteArray)]) ?_ 2 _ rfl; (with_reducible repeat (first | refine blk_drewN ?_ _ | refine blk_drew ?_ | refine blk_alloc ?_ _)); refine blk_put (cs := #[.int .u64 0, .int .u64 0, .int .u8 0, .bool false, .int .u16 0, .int .u16 0, .string (⟨#[]⟩ : ByteArray)]) ?_ 1 _ rfl; (with_reducible repeat (first | refine blk_drewN ?_ _ | refine blk_drew ?_ | refine blk_alloc ?_ _)); refine blk_put (cs := #[.int .u64 0, .int .u64 0, .int .u8 0, .bool false, .int .u16 0, .int .u16 0, .string (⟨#[]⟩ : ByteArray)]) ?_ 0 _ rfl; (with_reducible repeat (first | refine blk_drewN ?_ _ | refine blk_drew ?_ | refine blk_alloc ?_ _)); exact BK190.out) Try.underlying32 rfl (by kernel_rfl)) rfl ?_
                      exact ⟨by first | rfl | (simp [errW_none, errW_some] <;> rfl) | (simp [*, errW_none, errW_some] <;> rfl), by repeat (first | (with_reducible first | exact HB.out | apply below_alloc | apply pw_below_drewN | apply below_drew1 | refine below_set ?_ GE190.out | refine below_set ?_ GE195.out) | exact HB.out)⟩
                    · replace c63 := Bool.eq_false_iff.mpr c63
                      subst c63
                      have H1 : (if (IntKind.u16.wrap (t194)) < 1536 then (some (0, 0, 0, false, 0, 0, (⟨#[]⟩ : ByteArray), 6)) else (some (t192, t193, ((IntKind.u64.wrap (Int.tdiv t191 8192)) % 256), ((Int.tmod (IntKind.u64.wrap (Int.tdiv t191 4096)) 2) == 1), (IntKind.u16.wrap (Int.tmod t191 4096)), (IntKind.u16.wrap (t194)), (a0.extract 18 a0.size), 0))) = some (r1, r2, r3, r4, r5, r6, r7, r8) := by rw [if_neg (show ¬ (false = true) by decide)] at H; exact H
                      clear H
                      have H := H1
                      clear H1
                      by_cases c66 : (IntKind.u16.wrap (t194)) < 1536
                      · rw [if_pos c66] at H
                        have c66b0 : decide ((IntKind.u16.wrap (t194)) < 1536) = true := decide_eq_true c66
                        clear c66
                        simp only [Option.some.injEq, Prod.mk.injEq] at H
                        obtain ⟨rfl, rfl, rfl, rfl, rfl, rfl, rfl, rfl⟩ := H
                        have hnb67 := NB195_190.out
                        have hnc67 := NB190_195.out
                        have hcz68_0 : wc.cell? ⟨gb195, 0, none⟩ = some (.int .u64 t192) := (blk_cell BK195.out 0).trans rfl
                        have hcz68_1 : wc.cell? ⟨gb195, 1, none⟩ = some (.int .u64 t193) := (blk_cell BK195.out 1).trans rfl
                        have hcz68_2 : wc.cell? ⟨gb195, 2, none⟩ = some (.int .u8 ((IntKind.u64.wrap (Int.tdiv t191 8192)) % 256)) := (blk_cell BK195.out 2).trans rfl
                        have hcz68_3 : wc.cell? ⟨gb195, 3, none⟩ = some (.bool ((Int.tmod (IntKind.u64.wrap (Int.tdiv t191 4096)) 2) == 1)) := (blk_cell BK195.out 3).trans rfl
                        have hcz68_4 : wc.cell? ⟨gb195, 4, none⟩ = some (.int .u16 (IntKind.u16.wrap (Int.tmod t191 4096))) := (blk_cell BK195.out 4).trans rfl
                        have hcz68_5 : wc.cell? ⟨gb195, 5, none⟩ = some (.int .u16 (IntKind.u16.wrap (t194))) := (blk_cell BK195.out 5).trans rfl
                        have hcz68_6 : wc.cell? ⟨gb195, 6, none⟩ = some (.string (a0.extract 18 a0.size)) := (blk_cell BK195.out 6).trans rfl
                        have hfz68_0 := blk_frozen BK195.out 0
                        have hfz68_1 := blk_frozen BK195.out 1
                        have hfz68_2 := blk_frozen BK195.out 2
                        have hfz68_3 := blk_frozen BK195.out 3
                        have hfz68_4 := blk_frozen BK195.out 4
                        have hfz68_5 := blk_frozen BK195.out 5
                        have hfz68_6 := blk_frozen BK195.out 6
                        have hcz69_0 : wc.cell? ⟨gb190, 0, none⟩ = some (.int .u64 0) := (blk_cell BK190.out 0).trans rfl
                        have hcz69_1 : wc.cell? ⟨gb190, 1, none⟩ = some (.int .u64 0) := (blk_cell BK190.out 1).trans rfl
                        have hcz69_2 : wc.cell? ⟨gb190, 2, none⟩ = some (.int .u8 0) := (blk_cell BK190.out 2).trans rfl
                        have hcz69_3 : wc.cell? ⟨gb190, 3, none⟩ = some (.bool false) := (blk_cell BK190.out 3).trans rfl
                        have hcz69_4 : wc.cell? ⟨gb190, 4, none⟩ = some (.int .u16 0) := (blk_cell BK190.out 4).trans rfl
                        have hcz69_5 : wc.cell? ⟨gb190, 5, none⟩ = some (.int .u16 0) := (blk_cell BK190.out 5).trans rfl
                        have hcz69_6 : wc.cell? ⟨gb190, 6, none⟩ = some (.string (⟨#[]⟩ : ByteArray)) := (blk_cell BK190.out 6).trans rfl
                        have hfz69_0 := blk_frozen BK190.out 0
                        have hfz69_1 := blk_frozen BK190.out 1
                        have hfz69_2 := blk_frozen BK190.out 2
                        have hfz69_3 := blk_frozen BK190.out 3
                        have hfz69_4 := blk_frozen BK190.out 4
                        have hfz69_5 := blk_frozen BK190.out 5
                        have hfz69_6 := blk_frozen BK190.out 6
                        go_wp2
                        refine bodyPost_ret (results_ct rfl _ _ gb190 32 #[.int .u64 0, .int .u64 0, .int .u8 0, .bool false, .int .u16 0, .int .u16 0, .string (⟨#[]⟩ : ByteArray)] (0, 0) _ rfl (by (with_reducible repeat (first | refine blk_drewN ?_ _ | refine blk_drew ?_ | refine blk_alloc ?_ _)); refine blk_put (cs := #[.int .u64 0, .int .u64 0, .int .u8 0, .bool false, .int .u16 0, .int .u16 0, .string (⟨#[]⟩ : ByteArray)]) ?_ 6 _ rfl; (with_reducible repeat (first | refine blk_drewN ?_ _ | refine blk_drew ?_ | refine blk_alloc ?_ _)); refine blk_put (cs := #[.int .u64 0, .int .u64 0, .int .u8 0, .bool false, .int .u16 0, .int .u16 0, .string (⟨#[]⟩ : ByteArray)]) ?_ 5 _ rfl; (with_reducible repeat (first | refine blk_drewN ?_ _ | refine blk_drew ?_ | refine blk_alloc ?_ _)); refine blk_put (cs := #[.int .u64 0, .int .u64 0, .int .u8 0, .bool false, .int .u16 0, .int .u16 0, .string (⟨#[]⟩ : ByteArray)]) ?_ 4 _ rfl; (with_reducible repeat (first | refine blk_drewN ?_ _ | refine blk_drew ?_ | refine blk_alloc ?_ _)); refine blk_put (cs := #[.int .u64 0, .int .u64 0, .int .u8 0, .bool false, .int .u16 0, .int .u16 0, .string (⟨#[]⟩ : ByteArray)]) ?_ 3 _ rfl; (with_reducible repeat (first | refine blk_drewN ?_ _ | refine blk_drew ?_ | refine blk_alloc ?_ _)); refine blk_put (cs := #[.int .u64 0, .int .u64 0, .int .u8 0, .bool false, .int .u16 0, .int .u16 0, .string (⟨#[]⟩ : ByteArray)]) ?_ 2 _ rfl; (with_reducible repeat (first | refine blk_drewN ?_ _ | refine blk_drew ?_ | refine blk_alloc ?_ _)); refine blk_put (cs := #[.int .u64 0, .int .u64 0, .int .u8 0, .bool false, .int .u16 0, .int .u16 0, .string (⟨#[]⟩ : ByteArray)]) ?_ 1 _ rfl; (with_reducible repeat (first | refine blk_drewN ?_ _ | refine blk_drew ?_ | refine blk_alloc ?_ _)); refine blk_put (cs := #[.int .u64 0, .int .u64 0, .int .u8 0, .bool false, .int .u16 0, .int .u16 0, .string (⟨#[]⟩ : ByteArray)]) ?_ 0 _ rfl; (with_reducible repeat (first | refine blk_drewN ?_ _ | refine blk_drew ?_ | refine blk_alloc ?_ _)); exact BK190.out) Try.underlying32 rfl (by kernel_rfl)) rfl ?_
                        exact ⟨by first | rfl | (simp [errW_none, errW_some] <;> rfl) | (simp [*, errW_none, errW_some] <;> rfl), by repeat (first | (with_reducible first | exact HB.out | apply below_alloc | apply pw_below_drewN | apply below_drew1 | refine below_set ?_ GE190.out | refine below_set ?_ GE195.out) | exact HB.out)⟩
                      · rw [if_neg c66] at H
                        have c66b0 : decide ((IntKind.u16.wrap (t194)) < 1536) = false := decide_eq_false c66
                        clear c66
                        simp only [Option.some.injEq, Prod.mk.injEq] at H
                        obtain ⟨rfl, rfl, rfl, rfl, rfl, rfl, rfl, rfl⟩ := H
                        have hnb70 := NB195_190.out
                        have hnc70 := NB190_195.out
                        have hcz71_0 : wc.cell? ⟨gb195, 0, none⟩ = some (.int .u64 t192) := (blk_cell BK195.out 0).trans rfl
                        have hcz71_1 : wc.cell? ⟨gb195, 1, none⟩ = some (.int .u64 t193) := (blk_cell BK195.out 1).trans rfl
                        have hcz71_2 : wc.cell? ⟨gb195, 2, none⟩ = some (.int .u8 ((IntKind.u64.wrap (Int.tdiv t191 8192)) % 256)) := (blk_cell BK195.out 2).trans rfl
                        have hcz71_3 : wc.cell? ⟨gb195, 3, none⟩ = some (.bool ((Int.tmod (IntKind.u64.wrap (Int.tdiv t191 4096)) 2) == 1)) := (blk_cell BK195.out 3).trans rfl
                        have hcz71_4 : wc.cell? ⟨gb195, 4, none⟩ = some (.int .u16 (IntKind.u16.wrap (Int.tmod t191 4096))) := (blk_cell BK195.out 4).trans rfl
                        have hcz71_5 : wc.cell? ⟨gb195, 5, none⟩ = some (.int .u16 (IntKind.u16.wrap (t194))) := (blk_cell BK195.out 5).trans rfl
                        have hcz71_6 : wc.cell? ⟨gb195, 6, none⟩ = some (.string (a0.extract 18 a0.size)) := (blk_cell BK195.out 6).trans rfl
                        have hfz71_0 := blk_frozen BK195.out 0
                        have hfz71_1 := blk_frozen BK195.out 1
                        have hfz71_2 := blk_frozen BK195.out 2
                        have hfz71_3 := blk_frozen BK195.out 3
                        have hfz71_4 := blk_frozen BK195.out 4
                        have hfz71_5 := blk_frozen BK195.out 5
                        have hfz71_6 := blk_frozen BK195.out 6
                        have hcz72_0 : wc.cell? ⟨gb190, 0, none⟩ = some (.int .u64 0) := (blk_cell BK190.out 0).trans rfl
                        have hcz72_1 : wc.cell? ⟨gb190, 1, none⟩ = some (.int .u64 0) := (blk_cell BK190.out 1).trans rfl
                        have hcz72_2 : wc.cell? ⟨gb190, 2, none⟩ = some (.int .u8 0) := (blk_cell BK190.out 2).trans rfl
                        have hcz72_3 : wc.cell? ⟨gb190, 3, none⟩ = some (.bool false) := (blk_cell BK190.out 3).trans rfl
                        have hcz72_4 : wc.cell? ⟨gb190, 4, none⟩ = some (.int .u16 0) := (blk_cell BK190.out 4).trans rfl
                        have hcz72_5 : wc.cell? ⟨gb190, 5, none⟩ = some (.int .u16 0) := (blk_cell BK190.out 5).trans rfl
                        have hcz72_6 : wc.cell? ⟨gb190, 6, none⟩ = some (.string (⟨#[]⟩ : ByteArray)) := (blk_cell BK190.out 6).trans rfl
                        have hfz72_0 := blk_frozen BK190.out 0
                        have hfz72_1 := blk_frozen BK190.out 1
                        have hfz72_2 := blk_frozen BK190.out 2
                        have hfz72_3 := blk_frozen BK190.out 3
                        have hfz72_4 := blk_frozen BK190.out 4
                        have hfz72_5 := blk_frozen BK190.out 5
                        have hfz72_6 := blk_frozen BK190.out 6
                        go_wp2
                        refine bodyPost_ret (results_ct rfl _ _ gb190 32 #[.int .u64 t192, .int .u64 t193, .int .u8 ((IntKind.u64.wrap (Int.tdiv t191 8192)) % 256), .bool ((Int.tmod (IntKind.u64.wrap (Int.tdiv t191 4096)) 2) == 1), .int .u16 (IntKind.u16.wrap (Int.tmod t191 4096)), .int .u16 (IntKind.u16.wrap (t194)), .string (a0.extract 18 a0.size)] (0, 0) _ rfl (by (with_reducible repeat (first | refine blk_drewN ?_ _ | refine blk_drew ?_ | refine blk_alloc ?_ _)); refine blk_put (cs := #[.int .u64 t192, .int .u64 t193, .int .u8 ((IntKind.u64.wrap (Int.tdiv t191 8192)) % 256), .bool ((Int.tmod (IntKind.u64.wrap (Int.tdiv t191 4096)) 2) == 1), .int .u16 (IntKind.u16.wrap (Int.tmod t191 4096)), .int .u16 (IntKind.u16.wrap (t194)), .string (⟨#[]⟩ : ByteArray)]) ?_ 6 _ rfl; (with_reducible repeat (first | refine blk_drewN ?_ _ | refine blk_drew ?_ | refine blk_alloc ?_ _)); refine blk_put (cs := #[.int .u64 t192, .int .u64 t193, .int .u8 ((IntKind.u64.wrap (Int.tdiv t191 8192)) % 256), .bool ((Int.tmod (IntKind.u64.wrap (Int.tdiv t191 4096)) 2) == 1), .int .u16 (IntKind.u16.wrap (Int.tmod t191 4096)), .int .u16 0, .string (⟨#[]⟩ : ByteArray)]) ?_ 5 _ rfl; (with_reducible repeat (first | refine blk_drewN ?_ _ | refine blk_drew ?_ | refine blk_alloc ?_ _)); refine blk_put (cs := #[.int .u64 t192, .int .u64 t193, .int .u8 ((IntKind.u64.wrap (Int.tdiv t191 8192)) % 256), .bool ((Int.tmod (IntKind.u64.wrap (Int.tdiv t191 4096)) 2) == 1), .int .u16 0, .int .u16 0, .string (⟨#[]⟩ : ByteArray)]) ?_ 4 _ rfl; (with_reducible repeat (first | refine blk_drewN ?_ _ | refine blk_drew ?_ | refine blk_alloc ?_ _)); refine blk_put (cs := #[.int .u64 t192, .int .u64 t193, .int .u8 ((IntKind.u64.wrap (Int.tdiv t191 8192)) % 256), .bool false, .int .u16 0, .int .u16 0, .string (⟨#[]⟩ : ByteArray)]) ?_ 3 _ rfl; (with_reducible repeat (first | refine blk_drewN ?_ _ | refine blk_drew ?_ | refine blk_alloc ?_ _)); refine blk_put (cs := #[.int .u64 t192, .int .u64 t193, .int .u8 0, .bool false, .int .u16 0, .int .u16 0, .string (⟨#[]⟩ : ByteArray)]) ?_ 2 _ rfl; (with_reducible repeat (first | refine blk_drewN ?_ _ | refine blk_drew ?_ | refine blk_alloc ?_ _)); refine blk_put (cs := #[.int .u64 t192, .int .u64 0, .int .u8 0, .bool false, .int .u16 0, .int .u16 0, .string (⟨#[]⟩ : ByteArray)]) ?_ 1 _ rfl; (with_reducible repeat (first | refine blk_drewN ?_ _ | refine blk_drew ?_ | refine blk_alloc ?_ _)); refine blk_put (cs := #[.int .u64 0, .int .u64 0, .int .u8 0, .bool false, .int .u16 0, .int .u16 0, .string (⟨#[]⟩ : ByteArray)]) ?_ 0 _ rfl; (with_reducible repeat (first | refine blk_drewN ?_ _ | refine blk_drew ?_ | refine blk_alloc ?_ _)); exact BK190.out) Try.underlying32 rfl (by kernel_rfl)) rfl ?_
                        exact ⟨by first | rfl | (simp [errW_none, errW_some] <;> rfl) | (simp [*, errW_none, errW_some] <;> rfl), by repeat (first | (with_reducible first | exact HB.out | apply below_alloc | apply pw_below_drewN | apply below_drew1 | refine below_set ?_ GE190.out | refine below_set ?_ GE195.out) | exact HB.out)⟩
            · rw [if_neg c21] at H
              exact absurd H (by simp)

end Go.Proofs.Ytmdaaphjndjakae.PAll
