-- Written by a program of this work, after the translation.
import Derived.Test.YtapicoienpbdfaaPWatchSendsx0
import Derived.Test.YtapicoienpbdfaaPWatchSendsx1
namespace Go.Proofs.Ytapicoienpbdfaa.PWatchSends
open Go.RowKit Go.Proofs.YtapicoienpbdfaaW.PrintWords Go.Proofs.YtapicoienpbdfaaW.PrintLast Go.Proofs.YtapicoienpbdfaaW.PrintMore
attribute [local go_sem] max2_int min2_int max_two min_two max_three min_three max_four min_four   -- for this text's walks alone
set_option linter.unusedVariables false
set_option linter.unusedSimpArgs false

/-! ### watch_New: function 22 -/
def watch_New.j0 : Nat → Bool → Int → Int → Int → ByteArray → Int → Int → Int → Int → Bool → Bool → Option (Int × Int × Int × ByteArray × Int × Int × Int × Int × Bool × Bool × Int)
  | 0, _, _, _, _, _, _, _, _, _, _, _ => none
  | k + 1, x49, x125000, x125001, x125002, x125003, x125004, x125005, x125006, x125007, x125008, x125009 => if x49 = true then (some (0, 0, 0, (⟨#[]⟩ : ByteArray), 0, 0, 0, 0, false, false, 4)) else (some (x125000, x125001, x125002, x125003, x125004, x125005, x125006, x125007, x125008, x125009, 0))
def watch_New.f (k : Nat) (a0 : Int) (a1 : Int) (a2 : Int) (a3 : ByteArray) (a4 : Int) (a5 : Int) : Option (Int × Int × Int × ByteArray × Int × Int × Int × Int × Bool × Bool × Int) := (watch_Watch_message.f a0 a1 a2 a3 a4 a5 a5 0 false false).bind fun bt125 => ((ccm_Close.f k bt125.1 bt125.2.1 bt125.2.2.1 bt125.2.2.2.1 bt125.2.2.2.2 a0).bind fun bt130 => (if bt130.2 = 0 then (if a4 < 1 then (watch_New.j0 k true a0 a1 a2 a3 a4 a5 a5 0 false false) else (if a4 > 1048576 then (watch_New.j0 k true a0 a1 a2 a3 a4 a5 a5 0 false false) else (if a5 < 0 then (watch_New.j0 k true a0 a1 a2 a3 a4 a5 a5 0 false false) else (watch_New.j0 k (decide (a5 > 1099511627776)) a0 a1 a2 a3 a4 a5 a5 0 false false)))) else (some (0, 0, 0, (⟨#[]⟩ : ByteArray), 0, 0, 0, 0, false, false, bt130.2))))
theorem watch_New.mono_l : ∀ k, (∀ y0 y1 y2 y3 y4 y5 y6 y7 y8 y9 y10, LeO (watch_New.j0 k y0 y1 y2 y3 y4 y5 y6 y7 y8 y9 y10) (watch_New.j0 (k + 1) y0 y1 y2 y3 y4 y5 y6 y7 y8 y9 y10))
  | 0 => fun _ _ _ _ _ _ _ _ _ _ _ r h => by simp [watch_New.j0] at h
  | k + 1 => by
    have ih0 := watch_New.mono_l k
    · intro y0 y1 y2 y3 y4 y5 y6 y7 y8 y9 y10
      unfold watch_New.j0
      repeat' first
      | (with_reducible exact ih0 _ _ _ _ _ _ _ _ _ _ _)
      | (with_reducible exact ccm_Close.mono _ _ _ _ _ _ _)
      | (with_reducible exact LeO.refl _)
      | (with_reducible exact LeO.none _)
      | (with_reducible refine LeO.ite ?_ ?_)
      | (with_reducible refine LeO.bind ?_ (fun _ => ?_))
      | exact ih0 _ _ _ _ _ _ _ _ _ _ _
      | exact ccm_Close.mono _ _ _ _ _ _ _
      | exact LeO.none _
      | refine LeO.ite ?_ ?_
      | refine LeO.bind ?_ (fun _ => ?_)
theorem watch_New.mono : ∀ a0 a1 a2 a3 a4 a5 k, LeO (watch_New.f k a0 a1 a2 a3 a4 a5) (watch_New.f (k + 1) a0 a1 a2 a3 a4 a5) := by
  intro a0 a1 a2 a3 a4 a5 k
  have ih0 := watch_New.mono_l k
  unfold watch_New.f
  repeat' first
      | (with_reducible exact ih0 _ _ _ _ _ _ _ _ _ _ _)
      | (with_reducible exact ccm_Close.mono _ _ _ _ _ _ _)
      | (with_reducible exact LeO.refl _)
      | (with_reducible exact LeO.none _)
      | (with_reducible refine LeO.ite ?_ ?_)
      | (with_reducible refine LeO.bind ?_ (fun _ => ?_))
      | exact ih0 _ _ _ _ _ _ _ _ _ _ _
      | exact ccm_Close.mono _ _ _ _ _ _ _
      | exact LeO.none _
      | refine LeO.ite ?_ ?_
      | refine LeO.bind ?_ (fun _ => ?_)
set_option maxHeartbeats 8000000 in
set_option maxRecDepth 100000 in
theorem watch_New.calls (k : Nat) (a0 : Int) (a1 : Int) (a2 : Int) (a3 : ByteArray) (a4 : Int) (a5 : Int) (r1 : Int) (r2 : Int) (r3 : Int) (r4 : ByteArray) (r5 : Int) (r6 : Int) (r7 : Int) (r8 : Int) (r9 : Bool) (r10 : Bool) (r11 : Int) (w : World) (h : watch_New.f k a0 a1 a2 a3 a4 a5 = some (r1, r2, r3, r4, r5, r6, r7, r8, r9, r10, r11)) :
    Calls Try.prog 22 #[.int .u8 a0, .int .u16 a1, .int .u8 a2, .string a3, .int .i64 a4, .int .i64 a5] w fun e w' => e = .returned (.tuple #[.agg #[.int .u8 r1, .int .u16 r2, .int .u8 r3, .string r4, .int .i64 r5, .int .i64 r6, .int .i64 r7, .int .u64 r8, .bool r9, .bool r10], .int .i64 r11]) ∧ Below w.heap.size w w' := by
  have hu42 := Try.underlying42
  have HB := Aside0.mk (Below.refl w.heap.size w)
  have H : ((watch_Watch_message.f a0 a1 a2 a3 a4 a5 a5 0 false false).bind fun bt125 => ((ccm_Close.f k bt125.1 bt125.2.1 bt125.2.2.1 bt125.2.2.2.1 bt125.2.2.2.2 a0).bind fun bt130 => (if bt130.2 = 0 then (if a4 < 1 then (watch_New.j0 k true a0 a1 a2 a3 a4 a5 a5 0 false false) else (if a4 > 1048576 then (watch_New.j0 k true a0 a1 a2 a3 a4 a5 a5 0 false false) else (if a5 < 0 then (watch_New.j0 k true a0 a1 a2 a3 a4 a5 a5 0 false false) else (watch_New.j0 k (decide (a5 > 1099511627776)) a0 a1 a2 a3 a4 a5 a5 0 false false)))) else (some (0, 0, 0, (⟨#[]⟩ : ByteArray), 0, 0, 0, 0, false, false, bt130.2))))) = some (r1, r2, r3, r4, r5, r6, r7, r8, r9, r10, r11) := h
  clear h
  replace H := Option.bind_eq_some_iff.mp H
  obtain ⟨⟨t125, t126, t127, t128, t129⟩, A70, H⟩ := H
  replace H : ((ccm_Close.f k t125 t126 t127 t128 t129 a0).bind fun bt130 => (if bt130.2 = 0 then (if a4 < 1 then (watch_New.j0 k true a0 a1 a2 a3 a4 a5 a5 0 false false) else (if a4 > 1048576 then (watch_New.j0 k true a0 a1 a2 a3 a4 a5 a5 0 false false) else (if a5 < 0 then (watch_New.j0 k true a0 a1 a2 a3 a4 a5 a5 0 false false) else (watch_New.j0 k (decide (a5 > 1099511627776)) a0 a1 a2 a3 a4 a5 a5 0 false false)))) else (some (0, 0, 0, (⟨#[]⟩ : ByteArray), 0, 0, 0, 0, false, false, bt130.2)))) = some (r1, r2, r3, r4, r5, r6, r7, r8, r9, r10, r11) := H
  have A7 := Aside0.mk A70
  clear A70
  replace H := Option.bind_eq_some_iff.mp H
  obtain ⟨⟨t130, t131⟩, A80, H⟩ := H
  replace H : (if t131 = 0 then (if a4 < 1 then (watch_New.j0 k true a0 a1 a2 a3 a4 a5 a5 0 false false) else (if a4 > 1048576 then (watch_New.j0 k true a0 a1 a2 a3 a4 a5 a5 0 false false) else (if a5 < 0 then (watch_New.j0 k true a0 a1 a2 a3 a4 a5 a5 0 false false) else (watch_New.j0 k (decide (a5 > 1099511627776)) a0 a1 a2 a3 a4 a5 a5 0 false false)))) else (some (0, 0, 0, (⟨#[]⟩ : ByteArray), 0, 0, 0, 0, false, false, t131))) = some (r1, r2, r3, r4, r5, r6, r7, r8, r9, r10, r11) := H
  have A8 := Aside0.mk A80
  clear A80
  by_cases c9 : t131 = 0
  · rw [if_pos c9] at H
    have c9b0 : (t131 == 0) = true := beq_iff_eq.mpr c9
    have c9b1 : (t131 != 0) = false := bne_eq_false_iff_eq.mpr c9
    clear c9
    have HC10 := Aside0.mk H
    clear H
    go_enter Try.func22, Try.ntmps22
    go_upto_region 5 with (first | ((with_reducible refine gate_dst (N := 12) rfl ?_); refine box_event ?hg (N := 12) ?hd (cs := #[.int .u8 0, .int .u16 0, .int .u8 0, .string (⟨#[]⟩ : ByteArray), .int .i64 0, .int .i64 0, .int .i64 0, .int .u64 0, .bool false, .bool false]) (t := 42) ?hr ?_; (case hd => rfl); (case hg => rfl); (case hr => first | (go_simp; done) | (go_simp; rfl)); intro gb123 hg w11 hbox hb; have n0_ := Aside0.mk (below_step (by repeat (first | (with_reducible first | exact HB.out | apply below_alloc | apply pw_below_drewN | apply below_drew1) | exact HB.out)) hb); have n1_ := Aside0.mk (hbox); have n2_ := Aside0.mk ((by rw [hg]; exact (below_size (by repeat (first | (with_reducible first | exact HB.out | apply below_alloc | apply pw_below_drewN | apply below_drew1) | exact HB.out))) : w.heap.size ≤ gb123)); have n3_ := Aside0.mk ((by rw [hg]; exact (below_size (by repeat (first | (with_reducible first | exact HB.out | apply below_alloc | apply pw_below_drewN | apply below_drew1) | exact HB.out))) : w.heap.size ≤ gb123)); clear HB; have HB := n0_; have BK123 := n1_; have GW123 := n2_; have GE123 := n3_; clear n0_ n1_ n2_ n3_; clear hb hbox hg) | ((with_reducible refine gate_dst (N := 14) rfl ?_); refine box_event ?hg (N := 14) ?hd (cs := #[.int .u8 0, .int .u16 0, .int .u8 0, .string (⟨#[]⟩ : ByteArray), .int .i64 0, .int .i64 0, .int .i64 0, .int .u64 0, .bool false, .bool false]) (t := 42) ?hr ?_; (case hd => rfl); (case hg => rfl); (case hr => first | (go_simp; done) | (go_simp; rfl)); intro gb124 hg w12 hbox hb; have n0_ := Aside0.mk (blk_below (g := gb123) (o := .cells #[.int .u8 0, .int .u16 0, .int .u8 0, .string (⟨#[]⟩ : ByteArray), .int .i64 0, .int .i64 0, .int .i64 0, .int .u64 0, .bool false, .bool false] 42 (0, 0)) (by (with_reducible repeat (first | refine blk_drewN ?_ _ | refine blk_drew ?_ | refine blk_alloc ?_ _)); exact BK123.out) hb); have n1_ := Aside0.mk (below_step (by repeat (first | (with_reducible first | exact HB.out | apply below_alloc | apply pw_below_drewN | apply below_drew1 | refine below_set ?_ GE123.out) | exact HB.out)) hb); have n2_ := Aside0.mk (hbox); have n3_ := Aside0.mk ((by rw [hg]; exact (below_size (by repeat (first | (with_reducible first | exact HB.out | apply below_alloc | apply pw_below_drewN | apply below_drew1 | refine below_set ?_ GE123.out) | exact HB.out))) : w.heap.size ≤ gb124)); have n4_ := Aside0.mk ((by rw [hg]; exact (below_size (by repeat (first | (with_reducible first | exact HB.out | apply below_alloc | apply pw_below_drewN | apply below_drew1 | refine below_set ?_ GE123.out) | exact HB.out))) : w.heap.size ≤ gb124)); have n5_ := Aside0.mk ((by rw [hg]; exact Nat.ne_of_lt (blk_lt (g := gb123) (o := .cells #[.int .u8 0, .int .u16 0, .int .u8 0, .string (⟨#[]⟩ : ByteArray), .int .i64 0, .int .i64 0, .int .i64 0, .int .u64 0, .bool false, .bool false] 42 (0, 0)) (by (with_reducible repeat (first | refine blk_drewN ?_ _ | refine blk_drew ?_ | refine blk_alloc ?_ _)); exact BK123.out)) : gb123 ≠ gb124)); have n6_ := Aside0.mk ((by rw [hg]; exact Nat.ne_of_gt (blk_lt (g := gb123) (o := .cells #[.int .u8 0, .int .u16 0, .int .u8 0, .string (⟨#[]⟩ : ByteArray), .int .i64 0, .int .i64 0, .int .i64 0, .int .u64 0, .bool false, .bool false] 42 (0, 0)) (by (with_reducible repeat (first | refine blk_drewN ?_ _ | refine blk_drew ?_ | refine blk_alloc ?_ _)); exact BK123.out)) : gb124 ≠ gb123)); clear BK123; clear HB; have BK123 := n0_; have HB := n1_; have BK124 := n2_; have GW124 := n3_; have GE124 := n4_; have NB123_124 := n5_; have NB124_123 := n6_; clear n0_ n1_ n2_ n3_ n4_ n5_ n6_; clear hb hbox hg; have hnb13 := NB124_123.out; have hnc13 := NB123_124.out; have hcz14_0 : w12.cell? ⟨gb124, 0, none⟩ = some (.int .u8 0) := (blk_cell BK124.out 0).trans rfl; have hcz14_1 : w12.cell? ⟨gb124, 1, none⟩ = some (.int .u16 0) := (blk_cell BK124.out 1).trans rfl; have hcz14_2 : w12.cell? ⟨gb124, 2, none⟩ = some (.int .u8 0) := (blk_cell BK124.out 2).trans rfl; have hcz14_3 : w12.cell? ⟨gb124, 3, none⟩ = some (.string (⟨#[]⟩ : ByteArray)) := (blk_cell BK124.out 3).trans rfl; have hcz14_4 : w12.cell? ⟨gb124, 4, none⟩ = some (.int .i64 0) := (blk_cell BK124.out 4).trans rfl; have hcz14_5 : w12.cell? ⟨gb124, 5, none⟩ = some (.int .i64 0) := (blk_cell BK124.out 5).trans rfl; have hcz14_6 : w12.cell? ⟨gb124, 6, none⟩ = some (.int .i64 0) := (blk_cell BK124.out 6).trans rfl; have hcz14_7 : w12.cell? ⟨gb124, 7, none⟩ = some (.int .u64 0) := (blk_cell BK124.out 7).trans rfl; have hcz14_8 : w12.cell? ⟨gb124, 8, none⟩ = some (.bool false) := (blk_cell BK124.out 8).trans rfl; have hcz14_9 : w12.cell? ⟨gb124, 9, none⟩ = some (.bool false) := (blk_cell BK124.out 9).trans rfl; have hfz14_0 := blk_frozen BK124.out 0; have hfz14_1 := blk_frozen BK124.out 1; have hfz14_2 := blk_frozen BK124.out 2; have hfz14_3 := blk_frozen BK124.out 3; have hfz14_4 := blk_frozen BK124.out 4; have hfz14_5 := blk_frozen BK124.out 5; have hfz14_6 := blk_frozen BK124.out 6; have hfz14_7 := blk_frozen BK124.out 7; have hfz14_8 := blk_frozen BK124.out 8; have hfz14_9 := blk_frozen BK124.out 9) | ((with_reducible refine gate_callee (f := 39) rfl ?_); refine goesL_ (some 27) rfl rfl Try.func39 (by kernel_rfl) rfl #[.agg #[.int .u8 a0, .int .u16 a1, .int .u8 a2, .string a3, .int .i64 a4, .int .i64 a5, .int .i64 a5, .int .u64 0, .bool false, .bool false]] rfl (by (try simp only [List.map_toArray, List.map_cons, List.map_nil]); first | done | rfl | (simp only [List.length_drop, List.length_take]; rfl)) ?_; (with_reducible refine (watch_Watch_message.calls a0 a1 a2 a3 a4 a5 a5 0 false false t125 t126 t127 t128 t129 _ A7.out).mono ?_); rintro e w15 ⟨rfl, hb⟩; refine ⟨_, rfl, ?_⟩; have n0_ := Aside0.mk (blk_below (g := gb123) (o := .cells #[.int .u8 0, .int .u16 0, .int .u8 0, .string (⟨#[]⟩ : ByteArray), .int .i64 0, .int .i64 0, .int .i64 0, .int .u64 0, .bool false, .bool false] 42 (0, 0)) (by (with_reducible repeat (first | refine blk_drewN ?_ _ | refine blk_drew ?_ | refine blk_alloc ?_ _)); refine blk_far ?_ NB123_124.out _; (with_reducible repeat (first | refine blk_drewN ?_ _ | refine blk_drew ?_ | refine blk_alloc ?_ _)); refine blk_far ?_ NB123_124.out _; (with_reducible repeat (first | refine blk_drewN ?_ _ | refine blk_drew ?_ | refine blk_alloc ?_ _)); refine blk_far ?_ NB123_124.out _; (with_reducible repeat (first | refine blk_drewN ?_ _ | refine blk_drew ?_ | refine blk_alloc ?_ _)); refine blk_far ?_ NB123_124.out _; (with_reducible repeat (first | refine blk_drewN ?_ _ | refine blk_drew ?_ | refine blk_alloc ?_ _)); refine blk_far ?_ NB123_124.out _; (with_reducible repeat (first | refine blk_drewN ?_ _ | refine blk_drew ?_ | refine blk_alloc ?_ _)); refine blk_far ?_ NB123_124.out _; (with_reducible repeat (first | refine blk_drewN ?_ _ | refine blk_drew ?_ | refine blk_alloc ?_ _)); refine blk_far ?_ NB123_124.out _; (with_reducible repeat (first | refine blk_drewN ?_ _ | refine blk_drew ?_ | refine blk_alloc ?_ _)); refine blk_far ?_ NB123_124.out _; (with_reducible repeat (first | refine blk_drewN ?_ _ | refine blk_drew ?_ | refine blk_alloc ?_ _)); refine blk_far ?_ NB123_124.out _; (with_reducible repeat (first | refine blk_drewN ?_ _ | refine blk_drew ?_ | refine blk_alloc ?_ _)); refine blk_far ?_ NB123_124.out _; (with_reducible repeat (first | refine blk_drewN ?_ _ | refine blk_drew ?_ | refine blk_alloc ?_ _)); exact BK123.out) hb); have n1_ := Aside0.mk (blk_below (g := gb124) (o := .cells #[.int .u8 a0, .int .u16 a1, .int .u8 a2, .string a3, .int .i64 a4, .int .i64 a5, .int .i64 a5, .int .u64 0, .bool false, .bool false] 42 (0, 0)) (by (with_reducible repeat (first | refine blk_drewN ?_ _ | refine blk_drew ?_ | refine blk_alloc ?_ _)); refine blk_put (cs := #[.int .u8 a0, .int .u16 a1, .int .u8 a2, .string a3, .int .i64 a4, .int .i64 a5, .int .i64 a5, .int .u64 0, .bool false, .bool false]) ?_ 9 _ rfl; (with_reducible repeat (first | refine blk_drewN ?_ _ | refine blk_drew ?_ | refine blk_alloc ?_ _)); refine blk_put (cs := #[.int .u8 a0, .int .u16 a1, .int .u8 a2, .string a3, .int .i64 a4, .int .i64 a5, .int .i64 a5, .int .u64 0, .bool false, .bool false]) ?_ 8 _ rfl; (with_reducible repeat (first | refine blk_drewN ?_ _ | refine blk_drew ?_ | refine blk_alloc ?_ _)); refine blk_put (cs := #[.int .u8 a0, .int .u16 a1, .int .u8 a2, .string a3, .int .i64 a4, .int .i64 a5, .int .i64 a5, .int .u64 0, .bool false, .bool false]) ?_ 7 _ rfl; (with_reducible repeat (first | refine blk_drewN ?_ _ | refine blk_drew ?_ | refine blk_alloc ?_ _)); refine blk_put (cs := #[.int .u8 a0, .int .u16 a1, .int .u8 a2, .string a3, .int .i64 a4, .int .i64 a5, .int .i64 0, .int .u64 0, .bool false, .bool false]) ?_ 6 _ rfl; (with_reducible repeat (first | refine blk_drewN ?_ _ | refine blk_drew ?_ | refine blk_alloc ?_ _)); refine blk_put (cs := #[.int .u8 a0, .int .u16 a1, .int .u8 a2, .string a3, .int .i64 a4, .int .i64 0, .int .i64 0, .int .u64 0, .bool false, .bool false]) ?_ 5 _ rfl; (with_reducible repeat (first | refine blk_drewN ?_ _ | refine blk_drew ?_ | refine blk_alloc ?_ _)); refine blk_put (cs := #[.int .u8 a0, .int .u16 a1, .int .u8 a2, .string a3, .int .i64 0, .int .i64 0, .int .i64 0, .int .u64 0, .bool false, .bool false]) ?_ 4 _ rfl; (with_reducible repeat (first | refine blk_drewN ?_ _ | refine blk_drew ?_ | refine blk_alloc ?_ _)); refine blk_put (cs := #[.int .u8 a0, .int .u16 a1, .int .u8 a2, .string (⟨#[]⟩ : ByteArray), .int .i64 0, .int .i64 0, .int .i64 0, .int .u64 0, .bool false, .bool false]) ?_ 3 _ rfl; (with_reducible repeat (first | refine blk_drewN ?_ _ | refine blk_drew ?_ | refine blk_alloc ?_ _)); refine blk_put (cs := #[.int .u8 a0, .int .u16 a1, .int .u8 0, .string (⟨#[]⟩ : ByteArray), .int .i64 0, .int .i64 0, .int .i64 0, .int .u64 0, .bool false, .bool false]) ?_ 2 _ rfl; (with_reducible repeat (first | refine blk_drewN ?_ _ | refine blk_drew ?_ | refine blk_alloc ?_ _)); refine blk_put (cs := #[.int .u8 a0, .int .u16 0, .int .u8 0, .string (⟨#[]⟩ : ByteArray), .int .i64 0, .int .i64 0, .int .i64 0, .int .u64 0, .bool false, .bool false]) ?_ 1 _ rfl; (with_reducible repeat (first | refine blk_drewN ?_ _ | refine blk_drew ?_ | refine blk_alloc ?_ _)); refine blk_put (cs := #[.int .u8 0, .int .u16 0, .int .u8 0, .string (⟨#[]⟩ : ByteArray), .int .i64 0, .int .i64 0, .int .i64 0, .int .u64 0, .bool false, .bool false]) ?_ 0 _ rfl; (with_reducible repeat (first | refine blk_drewN ?_ _ | refine blk_drew ?_ | refine blk_alloc ?_ _)); exact BK124.out) hb); have n2_ := Aside0.mk (below_step (by repeat (first | (with_reducible first | exact HB.out | apply below_alloc | apply pw_below_drewN | apply below_drew1 | refine below_set ?_ GE123.out | refine below_set ?_ GE124.out) | exact HB.out)) hb); clear BK123; clear BK124; clear HB; have BK123 := n0_; have BK124 := n1_; have HB := n2_; clear n0_ n1_ n2_; (try clear hb); (try clear hb2); (try clear hk); (try clear hi)) | ((with_reducible refine gate_callee (f := 38) rfl ?_); refine goesL_ (some 29) rfl rfl Try.func38 (by kernel_rfl) rfl #[.agg #[.bool t125, .int .u8 t126, .int .u32 t127, .int .u16 t128, .string t129], .int .u8 a0] rfl (by (try simp only [List.map_toArray, List.map_cons, List.map_nil]); first | done | rfl | (simp only [List.length_drop, List.length_take]; rfl)) ?_; (with_reducible refine (ccm_Close.calls k t125 t126 t127 t128 t129 a0 t130 t131 _ A8.out).mono ?_); rintro e w16 ⟨rfl, hb⟩; refine ⟨_, rfl, ?_⟩; have n0_ := Aside0.mk (blk_below (g := gb123) (o := .cells #[.int .u8 0, .int .u16 0, .int .u8 0, .string (⟨#[]⟩ : ByteArray), .int .i64 0, .int .i64 0, .int .i64 0, .int .u64 0, .bool false, .bool false] 42 (0, 0)) (by (with_reducible repeat (first | refine blk_drewN ?_ _ | refine blk_drew ?_ | refine blk_alloc ?_ _)); exact BK123.out) hb); have n1_ := Aside0.mk (blk_below (g := gb124) (o := .cells #[.int .u8 a0, .int .u16 a1, .int .u8 a2, .string a3, .int .i64 a4, .int .i64 a5, .int .i64 a5, .int .u64 0, .bool false, .bool false] 42 (0, 0)) (by (with_reducible repeat (first | refine blk_drewN ?_ _ | refine blk_drew ?_ | refine blk_alloc ?_ _)); exact BK124.out) hb); have n2_ := Aside0.mk (below_step (by repeat (first | (with_reducible first | exact HB.out | apply below_alloc | apply pw_below_drewN | apply below_drew1 | refine below_set ?_ GE123.out | refine below_set ?_ GE124.out) | exact HB.out)) hb); clear BK123; clear BK124; clear HB; have BK123 := n0_; have BK124 := n1_; have HB := n2_; clear n0_ n1_ n2_; (try clear hb); (try clear hb2); (try clear hk); (try clear hi)))
    (try simp only [Act.put, List.setIfInBounds_toArray, List.set_cons_zero, List.set_cons_succ])
    go_cut [49] (fun v49 wc => ∃ (kq : Nat) (x49_9 : Bool), v49 = .bool x49_9 ∧ Aside0 (watch_New.j0 kq x49_9 a0 a1 a2 a3 a4 a5 a5 0 false false = some (r1, r2, r3, r4, r5, r6, r7, r8, r9, r10, r11)) ∧ Aside0 (kq ≤ k) ∧ Aside0 (wc.heap[gb123]? = some (.cells #[.int .u8 0, .int .u16 0, .int .u8 0, .string (⟨#[]⟩ : ByteArray), .int .i64 0, .int .i64 0, .int .i64 0, .int .u64 0, .bool false, .bool false] 42 (0, 0))) ∧ Aside0 (wc.heap[gb124]? = some (.cells #[.int .u8 a0, .int .u16 a1, .int .u8 a2, .string a3, .int .i64 a4, .int .i64 a5, .int .i64 a5, .int .u64 0, .bool false, .bool false] 42 (0, 0))) ∧ Aside0 (Below w.heap.size w wc))
    case first =>
      have H := HC10.out
      clear HC10
      by_cases c17 : a4 < 1
      · rw [if_pos c17] at H
        have c17b0 : decide (a4 < 1) = true := decide_eq_true c17
        clear c17
        (first | rw [c17b0] | (simp only [i64_w, i32_w]; rw [c17b0]) | skip)
        have H' := Aside0.mk H
        clear H
        go_wp2
        go_meet
        case rel => exact ⟨_, (true), (by first | rfl | (simp; done) | (simp [*]; done)), H', ⟨by first | omega | exact Nat.le_refl _⟩, ⟨by (with_reducible repeat (first | refine blk_drewN ?_ _ | refine blk_drew ?_ | refine blk_alloc ?_ _)); exact BK123.out⟩, ⟨by (with_reducible repeat (first | refine blk_drewN ?_ _ | refine blk_drew ?_ | refine blk_alloc ?_ _)); exact BK124.out⟩, ⟨by repeat (first | (with_reducible first | exact HB.out | apply below_alloc | apply pw_below_drewN | apply below_drew1 | refine below_set ?_ GE123.out | refine below_set ?_ GE124.out) | exact HB.out)⟩⟩
      · rw [if_neg c17] at H
        have c17b0 : decide (a4 < 1) = false := decide_eq_false c17
        clear c17
        (first | rw [c17b0] | (simp only [i64_w, i32_w]; rw [c17b0]) | skip)
        by_cases c18 : a4 > 1048576
        · rw [if_pos c18] at H
          have c18b0 : decide (1048576 < a4) = true := decide_eq_true c18
          clear c18
          have H' := Aside0.mk H
          clear H
          go_wp2
          go_meet
          case rel => exact ⟨_, (true), (by first | rfl | (simp; done) | (simp [*]; done)), H', ⟨by first | omega | exact Nat.le_refl _⟩, ⟨by (with_reducible repeat (first | refine blk_drewN ?_ _ | refine blk_drew ?_ | refine blk_alloc ?_ _)); exact BK123.out⟩, ⟨by (with_reducible repeat (first | refine blk_drewN ?_ _ | refine blk_drew ?_ | refine blk_alloc ?_ _)); exact BK124.out⟩, ⟨by repeat (first | (with_reducible first | exact HB.out | apply below_alloc | apply pw_below_drewN | apply below_drew1 | refine below_set ?_ GE123.out | refine below_set ?_ GE124.out) | exact HB.out)⟩⟩
        · rw [if_neg c18] at H
          have c18b0 : decide (1048576 < a4) = false := decide_eq_false c18
          clear c18
          by_cases c19 : a5 < 0
          · rw [if_pos c19] at H
            have c19b0 : decide (a5 < 0) = true := decide_eq_true c19
            clear c19
            have H' := Aside0.mk H
            clear H
            go_wp2
            go_meet
            case rel => exact ⟨_, (true), (by first | rfl | (simp; done) | (simp [*]; done)), H', ⟨by first | omega | exact Nat.le_refl _⟩, ⟨by (with_reducible repeat (first | refine blk_drewN ?_ _ | refine blk_drew ?_ | refine blk_alloc ?_ _)); exact BK123.out⟩, ⟨by (with_reducible repeat (first | refine blk_drewN ?_ _ | refine blk_drew ?_ | refine blk_alloc ?_ _)); exact BK124.out⟩, ⟨by repeat (first | (with_reducible first | exact HB.out | apply below_alloc | apply pw_below_drewN | apply below_drew1 | refine below_set ?_ GE123.out | refine below_set ?_ GE124.out) | exact HB.out)⟩⟩
          · rw [if_neg c19] at H
            have c19b0 : decide (a5 < 0) = false := decide_eq_false c19
            clear c19
            have H' := Aside0.mk H
            clear H
            go_wp2
            go_meet
            case rel => exact ⟨_, (decide (a5 > 1099511627776)), (by first | rfl | (simp; done) | (simp [*]; done)), H', ⟨by first | omega | exact Nat.le_refl _⟩, ⟨by (with_reducible repeat (first | refine blk_drewN ?_ _ | refine blk_drew ?_ | refine blk_alloc ?_ _)); exact BK123.out⟩, ⟨by (with_reducible repeat (first | refine blk_drewN ?_ _ | refine blk_drew ?_ | refine blk_alloc ?_ _)); exact BK124.out⟩, ⟨by repeat (first | (with_reducible first | exact HB.out | apply below_alloc | apply pw_below_drewN | apply below_drew1 | refine below_set ?_ GE123.out | refine below_set ?_ GE124.out) | exact HB.out)⟩⟩
    case rest =>
      clear HC10
      try clear c1
      try clear c2
      try clear p2
      try clear c3
      try clear c9
      try clear c9b0
      try clear c9b1
      try clear c13
      try clear c17
      try clear c17b0
      try clear c18
      try clear c18b0
      try clear c19
      try clear c19b0
      try clear hcz14_0
      try clear hcz14_1
      try clear hcz14_2
      try clear hcz14_3
      try clear hcz14_4
      try clear hcz14_5
      try clear hcz14_6
      try clear hcz14_7
      try clear hcz14_8
      try clear hcz14_9
      try clear hfz14_0
      try clear hfz14_1
      try clear hfz14_2
      try clear hfz14_3
      try clear hfz14_4
      try clear hfz14_5
      try clear hfz14_6
      try clear hfz14_7
      try clear hfz14_8
      try clear hfz14_9
      obtain ⟨kq, x49_9, rfl, HA, HJ9, BK123, BK124, HB⟩ := hcut
      cases kq with
      | zero => exact absurd HA.out (by simp [watch_New.j0])
      | succ kj9 =>
        have H := HA.out
        clear HA
        simp only [watch_New.j0] at H
        by_cases c20 : x49_9 = true
        · subst c20
          have H1 : (some (0, 0, 0, (⟨#[]⟩ : ByteArray), 0, 0, 0, 0, false, false, 4)) = some (r1, r2, r3, r4, r5, r6, r7, r8, r9, r10, r11) := by rw [if_pos rfl] at H; exact H
          clear H
          have H := H1
          clear H1
          simp only [Option.some.injEq, Prod.mk.injEq] at H
          obtain ⟨rfl, rfl, rfl, rfl, rfl, rfl, rfl, rfl, rfl, rfl, rfl⟩ := H
          have hnb21 := NB123_124.out
          have hnc21 := NB124_123.out
          have hcz22_0 : wc.cell? ⟨gb123, 0, none⟩ = some (.int .u8 0) := (blk_cell BK123.out 0).trans rfl
          have hcz22_1 : wc.cell? ⟨gb123, 1, none⟩ = some (.int .u16 0) := (blk_cell BK123.out 1).trans rfl
          have hcz22_2 : wc.cell? ⟨gb123, 2, none⟩ = some (.int .u8 0) := (blk_cell BK123.out 2).trans rfl
          have hcz22_3 : wc.cell? ⟨gb123, 3, none⟩ = some (.string (⟨#[]⟩ : ByteArray)) := (blk_cell BK123.out 3).trans rfl
          have hcz22_4 : wc.cell? ⟨gb123, 4, none⟩ = some (.int .i64 0) := (blk_cell BK123.out 4).trans rfl
          have hcz22_5 : wc.cell? ⟨gb123, 5, none⟩ = some (.int .i64 0) := (blk_cell BK123.out 5).trans rfl
          have hcz22_6 : wc.cell? ⟨gb123, 6, none⟩ = some (.int .i64 0) := (blk_cell BK123.out 6).trans rfl
          have hcz22_7 : wc.cell? ⟨gb123, 7, none⟩ = some (.int .u64 0) := (blk_cell BK123.out 7).trans rfl
          have hcz22_8 : wc.cell? ⟨gb123, 8, none⟩ = some (.bool false) := (blk_cell BK123.out 8).trans rfl
          have hcz22_9 : wc.cell? ⟨gb123, 9, none⟩ = some (.bool false) := (blk_cell BK123.out 9).trans rfl
          have hfz22_0 := blk_frozen BK123.out 0
          have hfz22_1 := blk_frozen BK123.out 1
          have hfz22_2 := blk_frozen BK123.out 2
          have hfz22_3 := blk_frozen BK123.out 3
          have hfz22_4 := blk_frozen BK123.out 4
          have hfz22_5 := blk_frozen BK123.out 5
          have hfz22_6 := blk_frozen BK123.out 6
          have hfz22_7 := blk_frozen BK123.out 7
          have hfz22_8 := blk_frozen BK123.out 8
          have hfz22_9 := blk_frozen BK123.out 9
          go_wp2
          refine bodyPost_ret (results_ct rfl _ _ gb123 42 #[.int .u8 0, .int .u16 0, .int .u8 0, .string (⟨#[]⟩ : ByteArray), .int .i64 0, .int .i64 0, .int .i64 0, .int .u64 0, .bool false, .bool false] (0, 0) _ rfl (by (with_reducible repeat (first | refine blk_drewN ?_ _ | refine blk_drew ?_ | refine blk_alloc ?_ _)); refine blk_put (cs := #[.int .u8 0, .int .u16 0, .int .u8 0, .string (⟨#[]⟩ : ByteArray), .int .i64 0, .int .i64 0, .int .i64 0, .int .u64 0, .bool false, .bool false]) ?_ 9 _ rfl; (with_reducible repeat (first | refine blk_drewN ?_ _ | refine blk_drew ?_ | refine blk_alloc ?_ _)); refine blk_put (cs := #[.int .u8 0, .int .u16 0, .int .u8 0, .string (⟨#[]⟩ : ByteArray), .int .i64 0, .int .i64 0, .int .i64 0, .int .u64 0, .bool false, .bool false]) ?_ 8 _ rfl; (with_reducible repeat (first | refine blk_drewN ?_ _ | refine blk_drew ?_ | refine blk_alloc ?_ _)); refine blk_put (cs := #[.int .u8 0, .int .u16 0, .int .u8 0, .string (⟨#[]⟩ : ByteArray), .int .i64 0, .int .i64 0, .int .i64 0, .int .u64 0, .bool false, .bool false]) ?_ 7 _ rfl; (with_reducible repeat (first | refine blk_drewN ?_ _ | refine blk_drew ?_ | refine blk_alloc ?_ _)); refine blk_put (cs := #[.int .u8 0, .int .u16 0, .int .u8 0, .string (⟨#[]⟩ : ByteArray), .int .i64 0, .int .i64 0, .int .i64 0, .int .u64 0, .bool false, .bool false]) ?_ 6 _ rfl; (with_reducible repeat (first | refine blk_drewN ?_ _ | refine blk_drew ?_ | refine blk_alloc ?_ _)); refine blk_put (cs := #[.int .u8 0, .int .u16 0, .int .u8 0, .string (⟨#[]⟩ : ByteArray), .int .i64 0, .int .i64 0, .int .i64 0, .int .u64 0, .bool false, .bool false]) ?_ 5 _ rfl; (with_reducible repeat (first | refine blk_drewN ?_ _ | refine blk_drew ?_ | refine blk_alloc ?_ _)); refine blk_put (cs := #[.int .u8 0, .int .u16 0, .int .u8 0, .string (⟨#[]⟩ : ByteArray), .int .i64 0, .int .i64 0, .int .i64 0, .int .u64 0, .bool false, .bool false]) ?_ 4 _ rfl; (with_reducible repeat (first | refine blk_drewN ?_ _ | refine blk_drew ?_ | refine blk_alloc ?_ _)); refine blk_put (cs := #[.int .u8 0, .int .u16 0, .int .u8 0, .string (⟨#[]⟩ : ByteArray), .int .i64 0, .int .i64 0, .int .i64 0, .int .u64 0, .bool false, .bool false]) ?_ 3 _ rfl; (with_reducible repeat (first | refine blk_drewN ?_ _ | refine blk_drew ?_ | refine blk_alloc ?_ _)); refine blk_put (cs := #[.int .u8 0, .int .u16 0, .int .u8 0, .string (⟨#[]⟩ : ByteArray), .int .i64 0, .int .i64 0, .int .i64 0, .int .u64 0, .bool false, .bool false]) ?_ 2 _ rfl; (with_reducible repeat (first | refine blk_drewN ?_ _ | refine blk_drew ?_ | refine blk_alloc ?_ _)); refine blk_put (cs := #[.int .u8 0, .int .u16 0, .int .u8 0, .string (⟨#[]⟩ : ByteArray), .int .i64 0, .int .i64 0, .int .i64 0, .int .u64 0, .bool false, .bool false]) ?_ 1 _ rfl; (with_reducible repeat (first | refine blk_drewN ?_ _ | refine blk_drew ?_ | refine blk_alloc ?_ _)); refine blk_put (cs := #[.int .u8 0, .int .u16 0, .int .u8 0, .string (⟨#[]⟩ : ByteArray), .int .i64 0, .int .i64 0, .int .i64 0, .int .u64 0, .bool false, .bool false]) ?_ 0 _ rfl; (with_reducible repeat (first | refine blk_drewN ?_ _ | refine blk_drew ?_ | refine blk_alloc ?_ _)); exact BK123.out) Try.underlying42 rfl (by kernel_rfl)) rfl ?_
          exact ⟨by first | rfl | (simp [errW_none, errW_some] <;> rfl) | (simp [*, errW_none, errW_some] <;> rfl), by repeat (first | (with_reducible first | exact HB.out | apply below_alloc | apply pw_below_drewN | apply below_drew1 | refine below_set ?_ GE123.out | refine below_set ?_ GE124.out) | exact HB.out)⟩
        · replace c20 := Bool.eq_false_iff.mpr c20
          subst c20
          have H1 : (some (a0, a1, a2, a3, a4, a5, a5, 0, false, false, 0)) = some (r1, r2, r3, r4, r5, r6, r7, r8, r9, r10, r11) := by rw [if_neg (show ¬ (false = true) by decide)] at H; exact H
          clear H
          have H := H1
          clear H1
          simp only [Option.some.injEq, Prod.mk.injEq] at H
          obtain ⟨rfl, rfl, rfl, rfl, rfl, rfl, rfl, rfl, rfl, rfl, rfl⟩ := H
          have hnb23 := NB124_123.out
          have hnc23 := NB123_124.out
          have hcz24_0 : wc.cell? ⟨gb124, 0, none⟩ = some (.int .u8 a0) := (blk_cell BK124.out 0).trans rfl
          have hcz24_1 : wc.cell? ⟨gb124, 1, none⟩ = some (.int .u16 a1) := (blk_cell BK124.out 1).trans rfl
          have hcz24_2 : wc.cell? ⟨gb124, 2, none⟩ = some (.int .u8 a2) := (blk_cell BK124.out 2).trans rfl
          have hcz24_3 : wc.cell? ⟨gb124, 3, none⟩ = some (.string a3) := (blk_cell BK124.out 3).trans rfl
          have hcz24_4 : wc.cell? ⟨gb124, 4, none⟩ = some (.int .i64 a4) := (blk_cell BK124.out 4).trans rfl
          have hcz24_5 : wc.cell? ⟨gb124, 5, none⟩ = some (.int .i64 a5) := (blk_cell BK124.out 5).trans rfl
          have hcz24_6 : wc.cell? ⟨gb124, 6, none⟩ = some (.int .i64 a5) := (blk_cell BK124.out 6).trans rfl
          have hcz24_7 : wc.cell? ⟨gb124, 7, none⟩ = some (.int .u64 0) := (blk_cell BK124.out 7).trans rfl
          have hcz24_8 : wc.cell? ⟨gb124, 8, none⟩ = some (.bool false) := (blk_cell BK124.out 8).trans rfl
          have hcz24_9 : wc.cell? ⟨gb124, 9, none⟩ = some (.bool false) := (blk_cell BK124.out 9).trans rfl
          have hfz24_0 := blk_frozen BK124.out 0
          have hfz24_1 := blk_frozen BK124.out 1
          have hfz24_2 := blk_frozen BK124.out 2
          have hfz24_3 := blk_frozen BK124.out 3
          have hfz24_4 := blk_frozen BK124.out 4
          have hfz24_5 := blk_frozen BK124.out 5
          have hfz24_6 := blk_frozen BK124.out 6
          have hfz24_7 := blk_frozen BK124.out 7
          have hfz24_8 := blk_frozen BK124.out 8
          have hfz24_9 := blk_frozen BK124.out 9
          have hcz25_0 : wc.cell? ⟨gb123, 0, none⟩ = some (.int .u8 0) := (blk_cell BK123.out 0).trans rfl
          have hcz25_1 : wc.cell? ⟨gb123, 1, none⟩ = some (.int .u16 0) := (blk_cell BK123.out 1).trans rfl
          have hcz25_2 : wc.cell? ⟨gb123, 2, none⟩ = some (.int .u8 0) := (blk_cell BK123.out 2).trans rfl
          have hcz25_3 : wc.cell? ⟨gb123, 3, none⟩ = some (.string (⟨#[]⟩ : ByteArray)) := (blk_cell BK123.out 3).trans rfl
          have hcz25_4 : wc.cell? ⟨gb123, 4, none⟩ = some (.int .i64 0) := (blk_cell BK123.out 4).trans rfl
          have hcz25_5 : wc.cell? ⟨gb123, 5, none⟩ = some (.int .i64 0) := (blk_cell BK123.out 5).trans rfl
          have hcz25_6 : wc.cell? ⟨gb123, 6, none⟩ = some (.int .i64 0) := (blk_cell BK123.out 6).trans rfl
          have hcz25_7 : wc.cell? ⟨gb123, 7, none⟩ = some (.int .u64 0) := (blk_cell BK123.out 7).trans rfl
          have hcz25_8 : wc.cell? ⟨gb123, 8, none⟩ = some (.bool false) := (blk_cell BK123.out 8).trans rfl
          have hcz25_9 : wc.cell? ⟨gb123, 9, none⟩ = some (.bool false) := (blk_cell BK123.out 9).trans rfl
          have hfz25_0 := blk_frozen BK123.out 0
          have hfz25_1 := blk_frozen BK123.out 1
          have hfz25_2 := blk_frozen BK123.out 2
          have hfz25_3 := blk_frozen BK123.out 3
          have hfz25_4 := blk_frozen BK123.out 4
          have hfz25_5 := blk_frozen BK123.out 5
          have hfz25_6 := blk_frozen BK123.out 6
          have hfz25_7 := blk_frozen BK123.out 7
          have hfz25_8 := blk_frozen BK123.out 8
          have hfz25_9 := blk_frozen BK123.out 9
          go_wp2
          refine bodyPost_ret (results_ct rfl _ _ gb123 42 #[.int .u8 a0, .int .u16 a1, .int .u8 a2, .string a3, .int .i64 a4, .int .i64 a5, .int .i64 a5, .int .u64 0, .bool false, .bool false] (0, 0) _ rfl (by (with_reducible repeat (first | refine blk_drewN ?_ _ | refine blk_drew ?_ | refine blk_alloc ?_ _)); refine blk_put (cs := #[.int .u8 a0, .int .u16 a1, .int .u8 a2, .string a3, .int .i64 a4, .int .i64 a5, .int .i64 a5, .int .u64 0, .bool false, .bool false]) ?_ 9 _ rfl; (with_reducible repeat (first | refine blk_drewN ?_ _ | refine blk_drew ?_ | refine blk_alloc ?_ _)); refine blk_put (cs := #[.int .u8 a0, .int .u16 a1, .int .u8 a2, .string a3, .int .i64 a4, .int .i64 a5, .int .i64 a5, .int .u64 0, .bool false, .bool false]) ?_ 8 _ rfl; (with_reducible repeat (first | refine blk_drewN ?_ _ | refine blk_drew ?_ | refine blk_alloc ?_ _)); refine blk_put (cs := #[.int .u8 a0, .int .u16 a1, .int .u8 a2, .string a3, .int .i64 a4, .int .i64 a5, .int .i64 a5, .int .u64 0, .bool false, .bool false]) ?_ 7 _ rfl; (with_reducible repeat (first | refine blk_drewN ?_ _ | refine blk_drew ?_ | refine blk_alloc ?_ _)); refine blk_put (cs := #[.int .u8 a0, .int .u16 a1, .int .u8 a2, .string a3, .int .i64 a4, .int .i64 a5, .int .i64 0, .int .u64 0, .bool false, .bool false]) ?_ 6 _ rfl; (with_reducible repeat (first | refine blk_drewN ?_ _ | refine blk_drew ?_ | refine blk_alloc ?_ _)); refine blk_put (cs := #[.int .u8 a0, .int .u16 a1, .int .u8 a2, .string a3, .int .i64 a4, .int .i64 0, .int .i64 0, .int .u64 0, .bool false, .bool false]) ?_ 5 _ rfl; (with_reducible repeat (first | refine blk_drewN ?_ _ | refine blk_drew ?_ | refine blk_alloc ?_ _)); refine blk_put (cs := #[.int .u8 a0, .int .u16 a1, .int .u8 a2, .string a3, .int .i64 0, .int .i64 0, .int .i64 0, .int .u64 0, .bool false, .bool false]) ?_ 4 _ rfl; (with_reducible repeat (first | refine blk_drewN ?_ _ | refine blk_drew ?_ | refine blk_alloc ?_ _)); refine blk_put (cs := #[.int .u8 a0, .int .u16 a1, .int .u8 a2, .string (⟨#[]⟩ : ByteArray), .int .i64 0, .int .i64 0, .int .i64 0, .int .u64 0, .bool false, .bool false]) ?_ 3 _ rfl; (with_reducible repeat (first | refine blk_drewN ?_ _ | refine blk_drew ?_ | refine blk_alloc ?_ _)); refine blk_put (cs := #[.int .u8 a0, .int .u16 a1, .int .u8 0, .string (⟨#[]⟩ : ByteArray), .int .i64 0, .int .i64 0, .int .i64 0, .int .u64 0, .bool false, .bool false]) ?_ 2 _ rfl; (with_reducible repeat (first | refine blk_drewN ?_ _ | refine blk_drew ?_ | refine blk_alloc ?_ _)); refine blk_put (cs := #[.int .u8 a0, .int .u16 0, .int .u8 0, .string (⟨#[]⟩ : ByteArray), .int .i64 0, .int .i64 0, .int .i64 0, .int .u64 0, .bool false, .bool false]) ?_ 1 _ rfl; (with_reducible repeat (first | refine blk_drewN ?_ _ | refine blk_drew ?_ | refine blk_alloc ?_ _)); refine blk_put (cs := #[.int .u8 0, .int .u16 0, .int .u8 0, .string (⟨#[]⟩ : ByteArray), .int .i64 0, .int .i64 0, .int .i64 0, .int .u64 0, .bool false, .bool false]) ?_ 0 _ rfl; (with_reducible repeat (first | refine blk_drewN ?_ _ | refine blk_drew ?_ | refine blk_alloc ?_ _)); exact BK123.out) Try.underlying42 rfl (by kernel_rfl)) rfl ?_
          exact ⟨by first | rfl | (simp [errW_none, errW_some] <;> rfl) | (simp [*, errW_none, errW_some] <;> rfl), by repeat (first | (with_reducible first | exact HB.out | apply below_alloc | apply pw_below_drewN | apply below_drew1 | refine below_set ?_ GE123.out | refine below_set ?_ GE124.out) | exact HB.out)⟩
  · rw [if_neg c9] at H
    have c9b0 : (t131 == 0) = false := beq_eq_false_iff_ne.mpr c9
    have c9b1 : (t131 != 0) = true := bne_iff_ne.mpr c9
    simp only [Option.some.injEq, Prod.mk.injEq] at H
    obtain ⟨rfl, rfl, rfl, rfl, rfl, rfl, rfl, rfl, rfl, rfl, rfl⟩ := H
    go_enter Try.func22, Try.ntmps22
    go_wp2_with (first | ((with_reducible refine gate_dst (N := 12) rfl ?_); refine box_event ?hg (N := 12) ?hd (cs := #[.int .u8 0, .int .u16 0, .int .u8 0, .string (⟨#[]⟩ : ByteArray), .int .i64 0, .int .i64 0, .int .i64 0, .int .u64 0, .bool false, .bool false]) (t := 42) ?hr ?_; (case hd => rfl); (case hg => rfl); (case hr => first | (go_simp; done) | (go_simp; rfl)); intro gb123 hg w26 hbox hb; have n0_ := Aside0.mk (below_step (by repeat (first | (with_reducible first | exact HB.out | apply below_alloc | apply pw_below_drewN | apply below_drew1) | exact HB.out)) hb); have n1_ := Aside0.mk (hbox); have n2_ := Aside0.mk ((by rw [hg]; exact (below_size (by repeat (first | (with_reducible first | exact HB.out | apply below_alloc | apply pw_below_drewN | apply below_drew1) | exact HB.out))) : w.heap.size ≤ gb123)); have n3_ := Aside0.mk ((by rw [hg]; exact (below_size (by repeat (first | (with_reducible first | exact HB.out | apply below_alloc | apply pw_below_drewN | apply below_drew1) | exact HB.out))) : w.heap.size ≤ gb123)); clear HB; have HB := n0_; have BK123 := n1_; have GW123 := n2_; have GE123 := n3_; clear n0_ n1_ n2_ n3_; clear hb hbox hg) | ((with_reducible refine gate_dst (N := 14) rfl ?_); refine box_event ?hg (N := 14) ?hd (cs := #[.int .u8 0, .int .u16 0, .int .u8 0, .string (⟨#[]⟩ : ByteArray), .int .i64 0, .int .i64 0, .int .i64 0, .int .u64 0, .bool false, .bool false]) (t := 42) ?hr ?_; (case hd => rfl); (case hg => rfl); (case hr => first | (go_simp; done) | (go_simp; rfl)); intro gb124 hg w27 hbox hb; have n0_ := Aside0.mk (blk_below (g := gb123) (o := .cells #[.int .u8 0, .int .u16 0, .int .u8 0, .string (⟨#[]⟩ : ByteArray), .int .i64 0, .int .i64 0, .int .i64 0, .int .u64 0, .bool false, .bool false] 42 (0, 0)) (by (with_reducible repeat (first | refine blk_drewN ?_ _ | refine blk_drew ?_ | refine blk_alloc ?_ _)); exact BK123.out) hb); have n1_ := Aside0.mk (below_step (by repeat (first | (with_reducible first | exact HB.out | apply below_alloc | apply pw_below_drewN | apply below_drew1 | refine below_set ?_ GE123.out) | exact HB.out)) hb); have n2_ := Aside0.mk (hbox); have n3_ := Aside0.mk ((by rw [hg]; exact (below_size (by repeat (first | (with_reducible first | exact HB.out | apply below_alloc | apply pw_below_drewN | apply below_drew1 | refine below_set ?_ GE123.out) | exact HB.out))) : w.heap.size ≤ gb124)); have n4_ := Aside0.mk ((by rw [hg]; exact (below_size (by repeat (first | (with_reducible first | exact HB.out | apply below_alloc | apply pw_below_drewN | apply below_drew1 | refine below_set ?_ GE123.out) | exact HB.out))) : w.heap.size ≤ gb124)); have n5_ := Aside0.mk ((by rw [hg]; exact Nat.ne_of_lt (blk_lt (g := gb123) (o := .cells #[.int .u8 0, .int .u16 0, .int .u8 0, .string (⟨#[]⟩ : ByteArray), .int .i64 0, .int .i64 0, .int .i64 0, .int .u64 0, .bool false, .bool false] 42 (0, 0)) (by (with_reducible repeat (first | refine blk_drewN ?_ _ | refine blk_drew ?_ | refine blk_alloc ?_ _)); exact BK123.out)) : gb123 ≠ gb124)); have n6_ := Aside0.mk ((by rw [hg]; exact Nat.ne_of_gt (blk_lt (g := gb123) (o := .cells #[.int .u8 0, .int .u16 0, .int .u8 0, .string (⟨#[]⟩ : ByteArray), .int .i64 0, .int .i64 0, .int .i64 0, .int .u64 0, .bool false, .bool false] 42 (0, 0)) (by (with_reducible repeat (first | refine blk_drewN ?_ _ | refine blk_drew ?_ | refine blk_alloc ?_ _)); exact BK123.out)) : gb124 ≠ gb123)); clear BK123; clear HB; have BK123 := n0_; have HB := n1_; have BK124 := n2_; have GW124 := n3_; have GE124 := n4_; have NB123_124 := n5_; have NB124_123 := n6_; clear n0_ n1_ n2_ n3_ n4_ n5_ n6_; clear hb hbox hg; have hnb28 := NB124_123.out; have hnc28 := NB123_124.out; have hcz29_0 : w27.cell? ⟨gb124, 0, none⟩ = some (.int .u8 0) := (blk_cell BK124.out 0).trans rfl; have hcz29_1 : w27.cell? ⟨gb124, 1, none⟩ = some (.int .u16 0) := (blk_cell BK124.out 1).trans rfl; have hcz29_2 : w27.cell? ⟨gb124, 2, none⟩ = some (.int .u8 0) := (blk_cell BK124.out 2).trans rfl; have hcz29_3 : w27.cell? ⟨gb124, 3, none⟩ = some (.string (⟨#[]⟩ : ByteArray)) := (blk_cell BK124.out 3).trans rfl; have hcz29_4 : w27.cell? ⟨gb124, 4, none⟩ = some (.int .i64 0) := (blk_cell BK124.out 4).trans rfl; have hcz29_5 : w27.cell? ⟨gb124, 5, none⟩ = some (.int .i64 0) := (blk_cell BK124.out 5).trans rfl; have hcz29_6 : w27.cell? ⟨gb124, 6, none⟩ = some (.int .i64 0) := (blk_cell BK124.out 6).trans rfl; have hcz29_7 : w27.cell? ⟨gb124, 7, none⟩ = some (.int .u64 0) := (blk_cell BK124.out 7).trans rfl; have hcz29_8 : w27.cell? ⟨gb124, 8, none⟩ = some (.bool false) := (blk_cell BK124.out 8).trans rfl; have hcz29_9 : w27.cell? ⟨gb124, 9, none⟩ = some (.bool false) := (blk_cell BK124.out 9).trans rfl; have hfz29_0 := blk_frozen BK124.out 0; have hfz29_1 := blk_frozen BK124.out 1; have hfz29_2 := blk_frozen BK124.out 2; have hfz29_3 := blk_frozen BK124.out 3; have hfz29_4 := blk_frozen BK124.out 4; have hfz29_5 := blk_frozen BK124.out 5; have hfz29_6 := blk_frozen BK124.out 6; have hfz29_7 := blk_frozen BK124.out 7; have hfz29_8 := blk_frozen BK124.out 8; have hfz29_9 := blk_frozen BK124.out 9) | ((with_reducible refine gate_callee (f := 39) rfl ?_); refine goesL_ (some 27) rfl rfl Try.func39 (by kernel_rfl) rfl #[.agg #[.int .u8 a0, .int .u16 a1, .int .u8 a2, .string a3, .int .i64 a4, .int .i64 a5, .int .i64 a5, .int .u64 0, .bool false, .bool false]] rfl (by (try simp only [List.map_toArray, List.map_cons, List.map_nil]); first | done | rfl | (simp only [List.length_drop, List.length_take]; rfl)) ?_; (with_reducible refine (watch_Watch_message.calls a0 a1 a2 a3 a4 a5 a5 0 false false t125 t126 t127 t128 t129 _ A7.out).mono ?_); rintro e w30 ⟨rfl, hb⟩; refine ⟨_, rfl, ?_⟩; have n0_ := Aside0.mk (blk_below (g := gb123) (o := .cells #[.int .u8 0, .int .u16 0, .int .u8 0, .string (⟨#[]⟩ : ByteArray), .int .i64 0, .int .i64 0, .int .i64 0, .int .u64 0, .bool false, .bool false] 42 (0, 0)) (by (with_reducible repeat (first | refine blk_drewN ?_ _ | refine blk_drew ?_ | refine blk_alloc ?_ _)); refine blk_far ?_ NB123_124.out _; (with_reducible repeat (first | refine blk_drewN ?_ _ | refine blk_drew ?_ | refine blk_alloc ?_ _)); refine blk_far ?_ NB123_124.out _; (with_reducible repeat (first | refine blk_drewN ?_ _ | refine blk_drew ?_ | refine blk_alloc ?_ _)); refine blk_far ?_ NB123_124.out _; (with_reducible repeat (first | refine blk_drewN ?_ _ | refine blk_drew ?_ | refine blk_alloc ?_ _)); refine blk_far ?_ NB123_124.out _; (with_reducible repeat (first | refine blk_drewN ?_ _ | refine blk_drew ?_ | refine blk_alloc ?_ _)); refine blk_far ?_ NB123_124.out _; (with_reducible repeat (first | refine blk_drewN ?_ _ | refine blk_drew ?_ | refine blk_alloc ?_ _)); refine blk_far ?_ NB123_124.out _; (with_reducible repeat (first | refine blk_drewN ?_ _ | refine blk_drew ?_ | refine blk_alloc ?_ _)); refine blk_far ?_ NB123_124.out _; (with_reducible repeat (first | refine blk_drewN ?_ _ | refine blk_drew ?_ | refine blk_alloc ?_ _)); refine blk_far ?_ NB123_124.out _; (with_reducible repeat (first | refine blk_drewN ?_ _ | refine blk_drew ?_ | refine blk_alloc ?_ _)); refine blk_far ?_ NB123_124.out _; (with_reducible repeat (first | refine blk_drewN ?_ _ | refine blk_drew ?_ | refine blk_alloc ?_ _)); refine blk_far ?_ NB123_124.out _; (with_reducible repeat (first | refine blk_drewN ?_ _ | refine blk_drew ?_ | refine blk_alloc ?_ _)); exact BK123.out) hb); have n1_ := Aside0.mk (blk_below (g := gb124) (o := .cells #[.int .u8 a0, .int .u16 a1, .int .u8 a2, .string a3, .int .i64 a4, .int .i64 a5, .int .i64 a5, .int .u64 0, .bool false, .bool false] 42 (0, 0)) (by (with_reducible repeat (first | refine blk_drewN ?_ _ | refine blk_drew ?_ | refine blk_alloc ?_ _)); refine blk_put (cs := #[.int .u8 a0, .int .u16 a1, .int .u8 a2, .string a3, .int .i64 a4, .int .i64 a5, .int .i64 a5, .int .u64 0, .bool false, .bool false]) ?_ 9 _ rfl; (with_reducible repeat (first | refine blk_drewN ?_ _ | refine blk_drew ?_ | refine blk_alloc ?_ _)); refine blk_put (cs := #[.int .u8 a0, .int .u16 a1, .int .u8 a2, .string a3, .int .i64 a4, .int .i64 a5, .int .i64 a5, .int .u64 0, .bool false, .bool false]) ?_ 8 _ rfl; (with_reducible repeat (first | refine blk_drewN ?_ _ | refine blk_drew ?_ | refine blk_alloc ?_ _)); refine blk_put (cs := #[.int .u8 a0, .int .u16 a1, .int .u8 a2, .string a3, .int .i64 a4, .int .i64 a5, .int .i64 a5, .int .u64 0, .bool false, .bool false]) ?_ 7 _ rfl; (with_reducible repeat (first | refine blk_drewN ?_ _ | refine blk_drew ?_ | refine blk_alloc ?_ _)); refine blk_put (cs := #[.int .u8 a0, .int .u16 a1, .int .u8 a2, .string a3, .int .i64 a4, .int .i64 a5, .int .i64 0, .int .u64 0, .bool false, .bool false]) ?_ 6 _ rfl; (with_reducible repeat (first | refine blk_drewN ?_ _ | refine blk_drew ?_ | refine blk_alloc ?_ _)); refine blk_put (cs := #[.int .u8 a0, .int .u16 a1, .int .u8 a2, .string a3, .int .i64 a4, .int .i64 0, .int .i64 0, .int .u64 0, .bool false, .bool false]) ?_ 5 _ rfl; (with_reducible repeat (first | refine blk_drewN ?_ _ | refine blk_drew ?_ | refine blk_alloc ?_ _)); refine blk_put (cs := #[.int .u8 a0, .int .u16 a1, .int .u8 a2, .string a3, .int .i64 0, .int .i64 0, .int .i64 0, .int .u64 0, .bool false, .bool false]) ?_ 4 _ rfl; (with_reducible repeat (first | refine blk_drewN ?_ _ | refine blk_drew ?_ | refine blk_alloc ?_ _)); refine blk_put (cs := #[.int .u8 a0, .int .u16 a1, .int .u8 a2, .string (⟨#[]⟩ : ByteArray), .int .i64 0, .int .i64 0, .int .i64 0, .int .u64 0, .bool false, .bool false]) ?_ 3 _ rfl; (with_reducible repeat (first | refine blk_drewN ?_ _ | refine blk_drew ?_ | refine blk_alloc ?_ _)); refine blk_put (cs := #[.int .u8 a0, .int .u16 a1, .int .u8 0, .string (⟨#[]⟩ : ByteArray), .int .i64 0, .int .i64 0, .int .i64 0, .int .u64 0, .bool false, .bool false]) ?_ 2 _ rfl; (with_reducible repeat (first | refine blk_drewN ?_ _ | refine blk_drew ?_ | refine blk_alloc ?_ _)); refine blk_put (cs := #[.int .u8 a0, .int .u16 0, .int .u8 0, .string (⟨#[]⟩ : ByteArray), .int .i64 0, .int .i64 0, .int .i64 0, .int .u64 0, .bool false, .bool false]) ?_ 1 _ rfl; (with_reducible repeat (first | refine blk_drewN ?_ _ | refine blk_drew ?_ | refine blk_alloc ?_ _)); refine blk_put (cs := #[.int .u8 0, .int .u16 0, .int .u8 0, .string (⟨#[]⟩ : ByteArray), .int .i64 0, .int .i64 0, .int .i64 0, .int .u64 0, .bool false, .bool false]) ?_ 0 _ rfl; (with_reducible repeat (first | refine blk_drewN ?_ _ | refine blk_drew ?_ | refine blk_alloc ?_ _)); exact BK124.out) hb); have n2_ := Aside0.mk (below_step (by repeat (first | (with_reducible first | exact HB.out | apply below_alloc | apply pw_below_drewN | apply below_drew1 | refine below_set ?_ GE123.out | refine below_set ?_ GE124.out) | exact HB.out)) hb); clear BK123; clear BK124; clear HB; have BK123 := n0_; have BK124 := n1_; have HB := n2_; clear n0_ n1_ n2_; (try clear hb); (try clear hb2); (try clear hk); (try clear hi)) | ((with_reducible refine gate_callee (f := 38) rfl ?_); refine goesL_ (some 29) rfl rfl Try.func38 (by kernel_rfl) rfl #[.agg #[.bool t125, .int .u8 t126, .int .u32 t127, .int .u16 t128, .string t129], .int .u8 a0] rfl (by (try simp only [List.map_toArray, List.map_cons, List.map_nil]); first | done | rfl | (simp only [List.length_drop, List.length_take]; rfl)) ?_; (with_reducible refine (ccm_Close.calls k t125 t126 t127 t128 t129 a0 t130 t131 _ A8.out).mono ?_); rintro e w31 ⟨rfl, hb⟩; refine ⟨_, rfl, ?_⟩; have n0_ := Aside0.mk (blk_below (g := gb123) (o := .cells #[.int .u8 0, .int .u16 0, .int .u8 0, .string (⟨#[]⟩ : ByteArray), .int .i64 0, .int .i64 0, .int .i64 0, .int .u64 0, .bool false, .bool false] 42 (0, 0)) (by (with_reducible repeat (first | refine blk_drewN ?_ _ | refine blk_drew ?_ | refine blk_alloc ?_ _)); exact BK123.out) hb); have n1_ := Aside0.mk (blk_below (g := gb124) (o := .cells #[.int .u8 a0, .int .u16 a1, .int .u8 a2, .string a3, .int .i64 a4, .int .i64 a5, .int .i64 a5, .int .u64 0, .bool false, .bool false] 42 (0, 0)) (by (with_reducible repeat (first | refine blk_drewN ?_ _ | refine blk_drew ?_ | refine blk_alloc ?_ _)); exact BK124.out) hb); have n2_ := Aside0.mk (below_step (by repeat (first | (with_reducible first | exact HB.out | apply below_alloc | apply pw_below_drewN | apply below_drew1 | refine below_set ?_ GE123.out | refine below_set ?_ GE124.out) | exact HB.out)) hb); clear BK123; clear BK124; clear HB; have BK123 := n0_; have BK124 := n1_; have HB := n2_; clear n0_ n1_ n2_; (try clear hb); (try clear hb2); (try clear hk); (try clear hi); have hcz32_0 : w31.cell? ⟨gb123, 0, none⟩ = some (.int .u8 0) := (blk_cell BK123.out 0).trans rfl; have hcz32_1 : w31.cell? ⟨gb123, 1, none⟩ = some (.int .u16 0) := (blk_cell BK123.out 1).trans rfl; have hcz32_2 : w31.cell? ⟨gb123, 2, none⟩ = some (.int .u8 0) := (blk_cell BK123.out 2).trans rfl; have hcz32_3 : w31.cell? ⟨gb123, 3, none⟩ = some (.string (⟨#[]⟩ : ByteArray)) := (blk_cell BK123.out 3).trans rfl; have hcz32_4 : w31.cell? ⟨gb123, 4, none⟩ = some (.int .i64 0) := (blk_cell BK123.out 4).trans rfl; have hcz32_5 : w31.cell? ⟨gb123, 5, none⟩ = some (.int .i64 0) := (blk_cell BK123.out 5).trans rfl; have hcz32_6 : w31.cell? ⟨gb123, 6, none⟩ = some (.int .i64 0) := (blk_cell BK123.out 6).trans rfl; have hcz32_7 : w31.cell? ⟨gb123, 7, none⟩ = some (.int .u64 0) := (blk_cell BK123.out 7).trans rfl; have hcz32_8 : w31.cell? ⟨gb123, 8, none⟩ = some (.bool false) := (blk_cell BK123.out 8).trans rfl; have hcz32_9 : w31.cell? ⟨gb123, 9, none⟩ = some (.bool false) := (blk_cell BK123.out 9).trans rfl; have hfz32_0 := blk_frozen BK123.out 0; have hfz32_1 := blk_frozen BK123.out 1; have hfz32_2 := blk_frozen BK123.out 2; have hfz32_3 := blk_frozen BK123.out 3; have hfz32_4 := blk_frozen BK123.out 4; have hfz32_5 := blk_frozen BK123.out 5; have hfz32_6 := blk_frozen BK123.out 6; have hfz32_7 := blk_frozen BK123.out 7; have hfz32_8 := blk_frozen BK123.out 8; have hfz32_9 := blk_frozen BK123.out 9))
    refine bodyPost_ret (results_ct rfl _ _ gb123 42 #[.int .u8 0, .int .u16 0, .int .u8 0, .string (⟨#[]⟩ : ByteArray), .int .i64 0, .int .i64 0, .int .i64 0, .int .u64 0, .bool false, .bool false] (0, 0) _ rfl (by (with_reducible repeat (first | refine blk_drewN ?_ _ | refine blk_drew ?_ | refine blk_alloc ?_ _)); refine blk_put (cs := #[.int .u8 0, .int .u16 0, .int .u8 0, .string (⟨#[]⟩ : ByteArray), .int .i64 0, .int .i64 0, .int .i64 0, .int .u64 0, .bool false, .bool false]) ?_ 9 _ rfl; (with_reducible repeat (first | refine blk_drewN ?_ _ | refine blk_drew ?_ | refine blk_alloc ?_ _)); refine blk_put (cs := #[.int .u8 0, .int .u16 0, .int .u8 0, .string (⟨#[]⟩ : ByteArray), .int .i64 0, .int .i64 0, .int .i64 0, .int .u64 0, .bool false, .bool false]) ?_ 8 _ rfl; (with_reducible repeat (first | refine blk_drewN ?_ _ | refine blk_drew ?_ | refine blk_alloc ?_ _)); refine blk_put (cs := #[.int .u8 0, .int .u16 0, .int .u8 0, .string (⟨#[]⟩ : ByteArray), .int .i64 0, .int .i64 0, .int .i64 0, .int .u64 0, .bool false, .bool false]) ?_ 7 _ rfl; (with_reducible repeat (first | refine blk_drewN ?_ _ | refine blk_drew ?_ | refine blk_alloc ?_ _)); refine blk_put (cs := #[.int .u8 0, .int .u16 0, .int .u8 0, .string (⟨#[]⟩ : ByteArray), .int .i64 0, .int .i64 0, .int .i64 0, .int .u64 0, .bool false, .bool false]) ?_ 6 _ rfl; (with_reducible repeat (first | refine blk_drewN ?_ _ | refine blk_drew ?_ | refine blk_alloc ?_ _)); refine blk_put (cs := #[.int .u8 0, .int .u16 0, .int .u8 0, .string (⟨#[]⟩ : ByteArray), .int .i64 0, .int .i64 0, .int .i64 0, .int .u64 0, .bool false, .bool false]) ?_ 5 _ rfl; (with_reducible repeat (first | refine blk_drewN ?_ _ | refine blk_drew ?_ | refine blk_alloc ?_ _)); refine blk_put (cs := #[.int .u8 0, .int .u16 0, .int .u8 0, .string (⟨#[]⟩ : ByteArray), .int .i64 0, .int .i64 0, .int .i64 0, .int .u64 0, .bool false, .bool false]) ?_ 4 _ rfl; (with_reducible repeat (first | refine blk_drewN ?_ _ | refine blk_drew ?_ | refine blk_alloc ?_ _)); refine blk_put (cs := #[.int .u8 0, .int .u16 0, .int .u8 0, .string (⟨#[]⟩ : ByteArray), .int .i64 0, .int .i64 0, .int .i64 0, .int .u64 0, .bool false, .bool false]) ?_ 3 _ rfl; (with_reducible repeat (first | refine blk_drewN ?_ _ | refine blk_drew ?_ | refine blk_alloc ?_ _)); refine blk_put (cs := #[.int .u8 0, .int .u16 0, .int .u8 0, .string (⟨#[]⟩ : ByteArray), .int .i64 0, .int .i64 0, .int .i64 0, .int .u64 0, .bool false, .bool false]) ?_ 2 _ rfl; (with_reducible repeat (first | refine blk_drewN ?_ _ | refine blk_drew ?_ | refine blk_alloc ?_ _)); refine blk_put (cs := #[.int .u8 0, .int .u16 0, .int .u8 0, .string (⟨#[]⟩ : ByteArray), .int .i64 0, .int .i64 0, .int .i64 0, .int .u64 0, .bool false, .bool false]) ?_ 1 _ rfl; (with_reducible repeat (first | refine blk_drewN ?_ _ | refine blk_drew ?_ | refine blk_alloc ?_ _)); refine blk_put (cs := #[.int .u8 0, .int .u16 0, .int .u8 0, .string (⟨#[]⟩ : ByteArray), .int .i64 0, .int .i64 0, .int .i64 0, .int .u64 0, .bool false, .bool false]) ?_ 0 _ rfl; (with_reducible repeat (first | refine blk_drewN ?_ _ | refine blk_drew ?_ | refine blk_alloc ?_ _)); exact BK123.out) Try.underlying42 rfl (by kernel_rfl)) rfl ?_
    exact ⟨by first | rfl | (simp [errW_none, errW_some] <;> rfl) | (simp [*, errW_none, errW_some] <;> rfl), by repeat (first | (with_reducible first | exact HB.out | apply below_alloc | apply pw_below_drewN | apply below_drew1 | refine below_set ?_ GE123.out | refine below_set ?_ GE124.out) | exact HB.out)⟩

/-! ### watch_Watch_Tick: function 26 -/
def watch_Watch_Tick.j0 : Nat → Int → ByteArray → Int → Int → Int → ByteArray → Int → Int → Int → Int → Bool → Bool → Option (Int × Int × Int × ByteArray × Int × Int × Int × Int × Bool × Bool × ByteArray)
  | 0, _, _, _, _, _, _, _, _, _, _, _, _ => none
  | k + 1, x1, x6, x133000, x133001, x133002, x133003, x133004, x133005, x133006, x133007, x133008, x133009 => if (wrap64 (2 * (wrap64 (x1 - x133005)))) > (wrap64 (7 * x133004)) then (some (x133000, x133001, x133002, x133003, x133004, x133005, x133006, x133007, true, x133009, x6)) else (some (x133000, x133001, x133002, x133003, x133004, x133005, x133006, x133007, x133008, x133009, x6))
def watch_Watch_Tick.f (k : Nat) (a0_0 : Int) (a0_1 : Int) (a0_2 : Int) (a0_3 : ByteArray) (a0_4 : Int) (a0_5 : Int) (a0_6 : Int) (a0_7 : Int) (a0_8 : Bool) (a0_9 : Bool) (a1 : Int) : Option (Int × Int × Int × ByteArray × Int × Int × Int × Int × Bool × Bool × ByteArray) := if a1 ≥ a0_6 then ((watch_Watch_message.f a0_0 a0_1 a0_2 a0_3 a0_4 a0_5 a0_6 a0_7 a0_8 a0_9).bind fun bt134 => ((ccm_Close.f k bt134.1 bt134.2.1 bt134.2.2.1 bt134.2.2.2.1 bt134.2.2.2.2 a0_0).bind fun bt139 => (watch_Watch_Tick.j0 k a1 bt139.1 a0_0 a0_1 a0_2 a0_3 a0_4 a0_5 (wrap64 (a1 + a0_4)) (IntKind.u64.wrap (a0_7 + 1)) a0_8 a0_9))) else (watch_Watch_Tick.j0 k a1 (⟨#[]⟩ : ByteArray) a0_0 a0_1 a0_2 a0_3 a0_4 a0_5 a0_6 a0_7 a0_8 a0_9)
theorem watch_Watch_Tick.mono_l : ∀ k, (∀ y0 y1 y2 y3 y4 y5 y6 y7 y8 y9 y10 y11, LeO (watch_Watch_Tick.j0 k y0 y1 y2 y3 y4 y5 y6 y7 y8 y9 y10 y11) (watch_Watch_Tick.j0 (k + 1) y0 y1 y2 y3 y4 y5 y6 y7 y8 y9 y10 y11))
  | 0 => fun _ _ _ _ _ _ _ _ _ _ _ _ r h => by simp [watch_Watch_Tick.j0] at h
  | k + 1 => by
    have ih0 := watch_Watch_Tick.mono_l k
    · intro y0 y1 y2 y3 y4 y5 y6 y7 y8 y9 y10 y11
      unfold watch_Watch_Tick.j0
      repeat' first
      | (with_reducible exact ih0 _ _ _ _ _ _ _ _ _ _ _ _)
      | (with_reducible exact ccm_Close.mono _ _ _ _ _ _ _)
      | (with_reducible exact LeO.refl _)
      | (with_reducible exact LeO.none _)
      | (with_reducible refine LeO.ite ?_ ?_)
      | (with_reducible refine LeO.bind ?_ (fun _ => ?_))
      | exact ih0 _ _ _ _ _ _ _ _ _ _ _ _
      | exact ccm_Close.mono _ _ _ _ _ _ _
      | exact LeO.none _
      | refine LeO.ite ?_ ?_
      | refine LeO.bind ?_ (fun _ => ?_)
theorem watch_Watch_Tick.mono : ∀ a0 a1 a2 a3 a4 a5 a6 a7 a8 a9 a10 k, LeO (watch_Watch_Tick.f k a0 a1 a2 a3 a4 a5 a6 a7 a8 a9 a10) (watch_Watch_Tick.f (k + 1) a0 a1 a2 a3 a4 a5 a6 a7 a8 a9 a10) := by
  intro a0 a1 a2 a3 a4 a5 a6 a7 a8 a9 a10 k
  have ih0 := watch_Watch_Tick.mono_l k
  unfold watch_Watch_Tick.f
  repeat' first
      | (with_reducible exact ih0 _ _ _ _ _ _ _ _ _ _ _ _)
      | (with_reducible exact ccm_Close.mono _ _ _ _ _ _ _)
      | (with_reducible exact LeO.refl _)
      | (with_reducible exact LeO.none _)
      | (with_reducible refine LeO.ite ?_ ?_)
      | (with_reducible refine LeO.bind ?_ (fun _ => ?_))
      | exact ih0 _ _ _ _ _ _ _ _ _ _ _ _
      | exact ccm_Close.mono _ _ _ _ _ _ _
      | exact LeO.none _
      | refine LeO.ite ?_ ?_
      | refine LeO.bind ?_ (fun _ => ?_)
def watch_Watch_Tick.T3 : Bool × List (List Nat × List Nat) := (true, [([], []), ([0], [0]), ([], []), ([2], [2]), ([1, 3, 1], [1, 3]), ([4], [4]), ([5], [5]), ([5], [5]), ([6, 4, 0, 1, 2, 3, 4, 5, 6], [6])])
def watch_Watch_Tick.B3 : List Nat := [0, 1, 0, 4, 15, 31, 63, 63, 127]
theorem watch_Watch_Tick.tab3 : rtab .any (opsOf Try.f26 3) = watch_Watch_Tick.T3 := by kernel_rfl
theorem watch_Watch_Tick.bits3 : waitsOk watch_Watch_Tick.T3.2 watch_Watch_Tick.B3 = true := by kernel_rfl
set_option maxHeartbeats 8000000 in
set_option maxRecDepth 100000 in
theorem watch_Watch_Tick.calls (k : Nat) (a0_0 : Int) (a0_1 : Int) (a0_2 : Int) (a0_3 : ByteArray) (a0_4 : Int) (a0_5 : Int) (a0_6 : Int) (a0_7 : Int) (a0_8 : Bool) (a0_9 : Bool) (a1 : Int) (r1 : Int) (r2 : Int) (r3 : Int) (r4 : ByteArray) (r5 : Int) (r6 : Int) (r7 : Int) (r8 : Int) (r9 : Bool) (r10 : Bool) (r11 : ByteArray) (w : World) (h : watch_Watch_Tick.f k a0_0 a0_1 a0_2 a0_3 a0_4 a0_5 a0_6 a0_7 a0_8 a0_9 a1 = some (r1, r2, r3, r4, r5, r6, r7, r8, r9, r10, r11)) :
    Calls Try.prog 26 #[.agg #[.int .u8 a0_0, .int .u16 a0_1, .int .u8 a0_2, .string a0_3, .int .i64 a0_4, .int .i64 a0_5, .int .i64 a0_6, .int .u64 a0_7, .bool a0_8, .bool a0_9], .int .i64 a1] w fun e w' => e = .returned (.tuple #[.agg #[.int .u8 r1, .int .u16 r2, .int .u8 r3, .string r4, .int .i64 r5, .int .i64 r6, .int .i64 r7, .int .u64 r8, .bool r9, .bool r10], .string r11]) ∧ Below w.heap.size w w' := by
  have hu42 := Try.underlying42
  have HB := Aside0.mk (Below.refl w.heap.size w)
  have H : (if a1 ≥ a0_6 then ((watch_Watch_message.f a0_0 a0_1 a0_2 a0_3 a0_4 a0_5 a0_6 a0_7 a0_8 a0_9).bind fun bt134 => ((ccm_Close.f k bt134.1 bt134.2.1 bt134.2.2.1 bt134.2.2.2.1 bt134.2.2.2.2 a0_0).bind fun bt139 => (watch_Watch_Tick.j0 k a1 bt139.1 a0_0 a0_1 a0_2 a0_3 a0_4 a0_5 (wrap64 (a1 + a0_4)) (IntKind.u64.wrap (a0_7 + 1)) a0_8 a0_9))) else (watch_Watch_Tick.j0 k a1 (⟨#[]⟩ : ByteArray) a0_0 a0_1 a0_2 a0_3 a0_4 a0_5 a0_6 a0_7 a0_8 a0_9)) = some (r1, r2, r3, r4, r5, r6, r7, r8, r9, r10, r11) := h
  clear h
  have HC3 := Aside0.mk H
  clear H
  go_enter Try.func26, Try.ntmps26
  go_upto_if 10 with (first | ((with_reducible refine gate_dst (N := 2) rfl ?_); refine box_event ?hg (N := 2) ?hd (cs := #[.int .u8 a0_0, .int .u16 a0_1, .int .u8 a0_2, .string a0_3, .int .i64 a0_4, .int .i64 a0_5, .int .i64 a0_6, .int .u64 a0_7, .bool a0_8, .bool a0_9]) (t := 42) ?hr ?_; (case hd => rfl); (case hg => rfl); (case hr => first | (go_simp; done) | (go_simp; rfl)); intro gb132 hg w4 hbox hb; have n0_ := Aside0.mk (below_step (by repeat (first | (with_reducible first | exact HB.out | apply below_alloc | apply pw_below_drewN | apply below_drew1) | exact HB.out)) hb); have n1_ := Aside0.mk (hbox); have n2_ := Aside0.mk ((by rw [hg]; exact (below_size (by repeat (first | (with_reducible first | exact HB.out | apply below_alloc | apply pw_below_drewN | apply below_drew1) | exact HB.out))) : w.heap.size ≤ gb132)); have n3_ := Aside0.mk ((by rw [hg]; exact (below_size (by repeat (first | (with_reducible first | exact HB.out | apply below_alloc | apply pw_below_drewN | apply below_drew1) | exact HB.out))) : w.heap.size ≤ gb132)); clear HB; have HB := n0_; have BK132 := n1_; have GW132 := n2_; have GE132 := n3_; clear n0_ n1_ n2_ n3_; clear hb hbox hg) | ((with_reducible refine gate_dst (N := 4) rfl ?_); refine box_event ?hg (N := 4) ?hd (cs := #[.int .u8 0, .int .u16 0, .int .u8 0, .string (⟨#[]⟩ : ByteArray), .int .i64 0, .int .i64 0, .int .i64 0, .int .u64 0, .bool false, .bool false]) (t := 42) ?hr ?_; (case hd => rfl); (case hg => rfl); (case hr => first | (go_simp; done) | (go_simp; rfl)); intro gb133 hg w5 hbox hb; have n0_ := Aside0.mk (blk_below (g := gb132) (o := .cells #[.int .u8 a0_0, .int .u16 a0_1, .int .u8 a0_2, .string a0_3, .int .i64 a0_4, .int .i64 a0_5, .int .i64 a0_6, .int .u64 a0_7, .bool a0_8, .bool a0_9] 42 (0, 0)) (by (with_reducible repeat (first | refine blk_drewN ?_ _ | refine blk_drew ?_ | refine blk_alloc ?_ _)); exact BK132.out) hb); have n1_ := Aside0.mk (below_step (by repeat (first | (with_reducible first | exact HB.out | apply below_alloc | apply pw_below_drewN | apply below_drew1 | refine below_set ?_ GE132.out) | exact HB.out)) hb); have n2_ := Aside0.mk (hbox); have n3_ := Aside0.mk ((by rw [hg]; exact (below_size (by repeat (first | (with_reducible first | exact HB.out | apply below_alloc | apply pw_below_drewN | apply below_drew1 | refine below_set ?_ GE132.out) | exact HB.out))) : w.heap.size ≤ gb133)); have n4_ := Aside0.mk ((by rw [hg]; exact (below_size (by repeat (first | (with_reducible first | exact HB.out | apply below_alloc | apply pw_below_drewN | apply below_drew1 | refine below_set ?_ GE132.out) | exact HB.out))) : w.heap.size ≤ gb133)); have n5_ := Aside0.mk ((by rw [hg]; exact Nat.ne_of_lt (blk_lt (g := gb132) (o := .cells #[.int .u8 a0_0, .int .u16 a0_1, .int .u8 a0_2, .string a0_3, .int .i64 a0_4, .int .i64 a0_5, .int .i64 a0_6, .int .u64 a0_7, .bool a0_8, .bool a0_9] 42 (0, 0)) (by (with_reducible repeat (first | refine blk_drewN ?_ _ | refine blk_drew ?_ | refine blk_alloc ?_ _)); exact BK132.out)) : gb132 ≠ gb133)); have n6_ := Aside0.mk ((by rw [hg]; exact Nat.ne_of_gt (blk_lt (g := gb132) (o := .cells #[.int .u8 a0_0, .int .u16 a0_1, .int .u8 a0_2, .string a0_3, .int .i64 a0_4, .int .i64 a0_5, .int .i64 a0_6, .int .u64 a0_7, .bool a0_8, .bool a0_9] 42 (0, 0)) (by (with_reducible repeat (first | refine blk_drewN ?_ _ | refine blk_drew ?_ | refine blk_alloc ?_ _)); exact BK132.out)) : gb133 ≠ gb132)); clear BK132; clear HB; have BK132 := n0_; have HB := n1_; have BK133 := n2_; have GW133 := n3_; have GE133 := n4_; have NB132_133 := n5_; have NB133_132 := n6_; clear n0_ n1_ n2_ n3_ n4_ n5_ n6_; clear hb hbox hg; have hnb6 := NB132_133.out; have hnc6 := NB133_132.out; have hcz7_0 : w5.cell? ⟨gb132, 0, none⟩ = some (.int .u8 a0_0) := (blk_cell BK132.out 0).trans rfl; have hcz7_1 : w5.cell? ⟨gb132, 1, none⟩ = some (.int .u16 a0_1) := (blk_cell BK132.out 1).trans rfl; have hcz7_2 : w5.cell? ⟨gb132, 2, none⟩ = some (.int .u8 a0_2) := (blk_cell BK132.out 2).trans rfl; have hcz7_3 : w5.cell? ⟨gb132, 3, none⟩ = some (.string a0_3) := (blk_cell BK132.out 3).trans rfl; have hcz7_4 : w5.cell? ⟨gb132, 4, none⟩ = some (.int .i64 a0_4) := (blk_cell BK132.out 4).trans rfl; have hcz7_5 : w5.cell? ⟨gb132, 5, none⟩ = some (.int .i64 a0_5) := (blk_cell BK132.out 5).trans rfl; have hcz7_6 : w5.cell? ⟨gb132, 6, none⟩ = some (.int .i64 a0_6) := (blk_cell BK132.out 6).trans rfl; have hcz7_7 : w5.cell? ⟨gb132, 7, none⟩ = some (.int .u64 a0_7) := (blk_cell BK132.out 7).trans rfl; have hcz7_8 : w5.cell? ⟨gb132, 8, none⟩ = some (.bool a0_8) := (blk_cell BK132.out 8).trans rfl; have hcz7_9 : w5.cell? ⟨gb132, 9, none⟩ = some (.bool a0_9) := (blk_cell BK132.out 9).trans rfl; have hfz7_0 := blk_frozen BK132.out 0; have hfz7_1 := blk_frozen BK132.out 1; have hfz7_2 := blk_frozen BK132.out 2; have hfz7_3 := blk_frozen BK132.out 3; have hfz7_4 := blk_frozen BK132.out 4; have hfz7_5 := blk_frozen BK132.out 5; have hfz7_6 := blk_frozen BK132.out 6; have hfz7_7 := blk_frozen BK132.out 7; have hfz7_8 := blk_frozen BK132.out 8; have hfz7_9 := blk_frozen BK132.out 9))
  (try simp only [Act.put, List.setIfInBounds_toArray, List.set_cons_zero, List.set_cons_succ])
  go_cut [6] (fun v6 wc => ∃ (kq : Nat) (x6_2 : ByteArray) (x133006_2 : Int) (x133007_2 : Int), v6 = .string x6_2 ∧ Aside0 (watch_Watch_Tick.j0 kq a1 x6_2 a0_0 a0_1 a0_2 a0_3 a0_4 a0_5 x133006_2 x133007_2 a0_8 a0_9 = some (r1, r2, r3, r4, r5, r6, r7, r8, r9, r10, r11)) ∧ Aside0 (kq ≤ k) ∧ Aside0 (wc.heap[gb132]? = some (.cells #[.int .u8 a0_0, .int .u16 a0_1, .int .u8 a0_2, .string a0_3, .int .i64 a0_4, .int .i64 a0_5, .int .i64 x133006_2, .int .u64 x133007_2, .bool a0_8, .bool a0_9] 42 (0, 0))) ∧ Aside0 (wc.heap[gb133]? = some (.cells #[.int .u8 0, .int .u16 0, .int .u8 0, .string (⟨#[]⟩ : ByteArray), .int .i64 0, .int .i64 0, .int .i64 0, .int .u64 0, .bool false, .bool false] 42 (0, 0))) ∧ Aside0 (Below w.heap.size w wc))
  case first =>
    have H := HC3.out
    clear HC3
    by_cases c8 : a1 ≥ a0_6
    · rw [if_pos c8] at H
      have c8b0 : decide (a0_6 ≤ a1) = true := decide_eq_true c8
      clear c8
      (first | rw [c8b0] | (simp only [i64_w, i32_w]; rw [c8b0]) | skip)
      replace H := Option.bind_eq_some_iff.mp H
      obtain ⟨⟨t134, t135, t136, t137, t138⟩, A90, H⟩ := H
      replace H : ((ccm_Close.f k t134 t135 t136 t137 t138 a0_0).bind fun bt139 => (watch_Watch_Tick.j0 k a1 bt139.1 a0_0 a0_1 a0_2 a0_3 a0_4 a0_5 (wrap64 (a1 + a0_4)) (IntKind.u64.wrap (a0_7 + 1)) a0_8 a0_9)) = some (r1, r2, r3, r4, r5, r6, r7, r8, r9, r10, r11) := H
      have A9 := Aside0.mk A90
      clear A90
      replace H := Option.bind_eq_some_iff.mp H
      obtain ⟨⟨t139, t140⟩, A100, H⟩ := H
      replace H : (watch_Watch_Tick.j0 k a1 t139 a0_0 a0_1 a0_2 a0_3 a0_4 a0_5 (wrap64 (a1 + a0_4)) (IntKind.u64.wrap (a0_7 + 1)) a0_8 a0_9) = some (r1, r2, r3, r4, r5, r6, r7, r8, r9, r10, r11) := H
      have A10 := Aside0.mk A100
      clear A100
      have H' := Aside0.mk H
      clear H
      try go_wp2
      have n0_ := Aside0.mk (blk_drew BK132.out)
      have n1_ := Aside0.mk (blk_drew BK133.out)
      have n2_ := Aside0.mk (below_drew1 HB.out)
      clear BK132
      clear BK133
      clear HB
      have BK132 := n0_
      have BK133 := n1_
      have HB := n2_
      clear n0_ n1_ n2_
      refine start_ (n := 9) (S := fun w' => w'.cell? ⟨gb132, 0, none⟩ = some (.int .u8 a0_0) ∧ w'.cell? ⟨gb132, 1, none⟩ = some (.int .u16 a0_1) ∧ w'.cell? ⟨gb132, 2, none⟩ = some (.int .u8 a0_2) ∧ w'.cell? ⟨gb132, 3, none⟩ = some (.string a0_3) ∧ w'.cell? ⟨gb132, 4, none⟩ = some (.int .i64 a0_4) ∧ w'.cell? ⟨gb132, 5, none⟩ = some (.int .i64 a0_5) ∧ w'.cell? ⟨gb132, 6, none⟩ = some (.int .i64 a0_6) ∧ w'.cell? ⟨gb132, 7, none⟩ = some (.int .u64 a0_7) ∧ w'.cell? ⟨gb132, 8, none⟩ = some (.bool a0_8) ∧ w'.cell? ⟨gb132, 9, none⟩ = some (.bool a0_9)) (ds := []) #[false, false, false, false, false, false, false, false, false] (by kernel_rfl) rfl rfl ⟨(blk_cell BK132.out 0).trans rfl, (blk_cell BK132.out 1).trans rfl, (blk_cell BK132.out 2).trans rfl, (blk_cell BK132.out 3).trans rfl, (blk_cell BK132.out 4).trans rfl, (blk_cell BK132.out 5).trans rfl, (blk_cell BK132.out 6).trans rfl, (blk_cell BK132.out 7).trans rfl, (blk_cell BK132.out 8).trans rfl, (blk_cell BK132.out 9).trans rfl⟩ (fun hHeld => ?_); refine with_tabW watch_Watch_Tick.tab3 watch_Watch_Tick.bits3 (fun HT_ HW_ => ?_)
      generalize w5.drew = w11 at BK132 BK133 HB hHeld ⊢
      refine pure_ (i := 2) (N := some 14) (v := ?_) (a' := ?_) #[false, false, true, false, false, false, false, false, false] rfl rfl (any_of HT_.out (by kernel_rfl)) (fun _ _ _ h => h) (Or.inl ⟨by rfl, ?_⟩) ?_ ?_
      rotate_left
      · intro w'
        go_simp
        with_reducible rfl
      rotate_left
      · simp only [Act.put, List.setIfInBounds_toArray, List.set_cons_zero, List.set_cons_succ, i64_w, i32_w]
        rfl
      refine take_ (i := 0) (N := some 12) (v := ?_) (a' := ?_) #[true, false, true, false, false, false, false, false, false] rfl rfl (take_ofW HT_.out HW_.out (by kernel_rfl)) (fun _ _ _ h => h) (Or.inl ⟨by rfl, ?_⟩) hHeld ?_ ?_
      rotate_left
      · rintro w' ⟨s0, s1, s2, s3, s4, s5, s6, s7, s8, s9⟩
        go_simp
        with_reducible rfl
      rotate_left
      · simp only [Act.put, List.setIfInBounds_toArray, List.set_cons_zero, List.set_cons_succ, i64_w, i32_w]
        rfl
      refine take_ (i := 3) (N := some 15) (v := ?_) (a' := ?_) #[true, false, true, true, false, false, false, false, false] rfl rfl (take_ofW HT_.out HW_.out (by kernel_rfl)) (fun _ _ _ h => h) (Or.inl ⟨by rfl, ?_⟩) hHeld ?_ ?_
      rotate_left
      · rintro w' ⟨s0, s1, s2, s3, s4, s5, s6, s7, s8, s9⟩
        go_simp
        with_reducible rfl
      rotate_left
      · simp only [Act.put, List.setIfInBounds_toArray, List.set_cons_zero, List.set_cons_succ, i64_w, i32_w]
        rfl
      refine one_ (i := 1) (N := some 13) #[true, true, true, true, false, false, false, false, false] rfl rfl (one_of HT_.out (by kernel_rfl)) (by decide) (fun K hK => ?_)
      refine goes_ Try.func39 (by kernel_rfl) rfl #[.agg #[.int .u8 a0_0, .int .u16 a0_1, .int .u8 a0_2, .string a0_3, .int .i64 a0_4, .int .i64 a0_5, .int .i64 a0_6, .int .u64 a0_7, .bool a0_8, .bool a0_9]] (by rfl) rfl rfl (by (try simp only [List.map_toArray, List.map_cons, List.map_nil]); first | done | rfl | (simp only [List.length_drop, List.length_take]; rfl)) ?_
      with_reducible refine (watch_Watch_message.calls a0_0 a0_1 a0_2 a0_3 a0_4 a0_5 a0_6 a0_7 a0_8 a0_9 t134 t135 t136 t137 t138 _ A9.out).mono ?_
      rintro e w12 ⟨rfl, hb⟩
      refine ⟨_, rfl, ?_⟩
      have n0_ := Aside0.mk (blk_below (g := gb132) (o := .cells #[.int .u8 a0_0, .int .u16 a0_1, .int .u8 a0_2, .string a0_3, .int .i64 a0_4, .int .i64 a0_5, .int .i64 a0_6, .int .u64 a0_7, .bool a0_8, .bool a0_9] 42 (0, 0)) (by (with_reducible repeat (first | refine blk_drewN ?_ _ | refine blk_drew ?_ | refine blk_alloc ?_ _)); exact BK132.out) hb)
      have n1_ := Aside0.mk (blk_below (g := gb133) (o := .cells #[.int .u8 0, .int .u16 0, .int .u8 0, .string (⟨#[]⟩ : ByteArray), .int .i64 0, .int .i64 0, .int .i64 0, .int .u64 0, .bool false, .bool false] 42 (0, 0)) (by (with_reducible repeat (first | refine blk_drewN ?_ _ | refine blk_drew ?_ | refine blk_alloc ?_ _)); exact BK133.out) hb)
      have n2_ := Aside0.mk (below_step (by repeat (first | (with_reducible first | exact HB.out | apply below_alloc | apply pw_below_drewN | apply below_drew1 | refine below_set ?_ GE132.out | refine below_set ?_ GE133.out) | exact HB.out)) hb)
      clear BK132
      clear BK133
      clear HB
      have BK132 := n0_
      have BK133 := n1_
      have HB := n2_
      clear n0_ n1_ n2_
      (try clear hb)
      (try clear hb2)
      (try clear hk)
      (try clear hi)
      refine hK.out _ _ ⟨(blk_cell BK132.out 0).trans rfl, (blk_cell BK132.out 1).trans rfl, (blk_cell BK132.out 2).trans rfl, (blk_cell BK132.out 3).trans rfl, (blk_cell BK132.out 4).trans rfl, (blk_cell BK132.out 5).trans rfl, (blk_cell BK132.out 6).trans rfl, (blk_cell BK132.out 7).trans rfl, (blk_cell BK132.out 8).trans rfl, (blk_cell BK132.out 9).trans rfl⟩ (fun hHeld => ?_)
      clear hK K
      refine norm_ (a' := ?_) ?_ ?_
      rotate_left
      · show Act.put _ (some 13) _ = _
        simp only [Act.put, List.setIfInBounds_toArray, List.set_cons_zero, List.set_cons_succ, i64_w, i32_w]
        rfl
      refine one_ (i := 4) (N := some 16) #[true, true, true, true, true, false, false, false, false] rfl rfl (one_of HT_.out (by kernel_rfl)) (by decide) (fun K hK => ?_)
      refine goes_ Try.func38 (by kernel_rfl) rfl #[.agg #[.bool t134, .int .u8 t135, .int .u32 t136, .int .u16 t137, .string t138], .int .u8 a0_0] (by rfl) rfl rfl (by (try simp only [List.map_toArray, List.map_cons, List.map_nil]); first | done | rfl | (simp only [List.length_drop, List.length_take]; rfl)) ?_
      with_reducible refine (ccm_Close.calls k t134 t135 t136 t137 t138 a0_0 t139 t140 _ A10.out).mono ?_
      rintro e w13 ⟨rfl, hb⟩
      refine ⟨_, rfl, ?_⟩
      have n0_ := Aside0.mk (blk_below (g := gb132) (o := .cells #[.int .u8 a0_0, .int .u16 a0_1, .int .u8 a0_2, .string a0_3, .int .i64 a0_4, .int .i64 a0_5, .int .i64 a0_6, .int .u64 a0_7, .bool a0_8, .bool a0_9] 42 (0, 0)) (by (with_reducible repeat (first | refine blk_drewN ?_ _ | refine blk_drew ?_ | refine blk_alloc ?_ _)); exact BK132.out) hb)
      have n1_ := Aside0.mk (blk_below (g := gb133) (o := .cells #[.int .u8 0, .int .u16 0, .int .u8 0, .string (⟨#[]⟩ : ByteArray), .int .i64 0, .int .i64 0, .int .i64 0, .int .u64 0, .bool false, .bool false] 42 (0, 0)) (by (with_reducible repeat (first | refine blk_drewN ?_ _ | refine blk_drew ?_ | refine blk_alloc ?_ _)); exact BK133.out) hb)
      have n2_ := Aside0.mk (below_step (by repeat (first | (with_reducible first | exact HB.out | apply below_alloc | apply pw_below_drewN | apply below_drew1 | refine below_set ?_ GE132.out | refine below_set ?_ GE133.out) | exact HB.out)) hb)
      clear BK132
      clear BK133
      clear HB
      have BK132 := n0_
      have BK133 := n1_
      have HB := n2_
      clear n0_ n1_ n2_
      (try clear hb)
      (try clear hb2)
      (try clear hk)
      (try clear hi)
      refine hK.out _ _ ⟨(blk_cell BK132.out 0).trans rfl, (blk_cell BK132.out 1).trans rfl, (blk_cell BK132.out 2).trans rfl, (blk_cell BK132.out 3).trans rfl, (blk_cell BK132.out 4).trans rfl, (blk_cell BK132.out 5).trans rfl, (blk_cell BK132.out 6).trans rfl, (blk_cell BK132.out 7).trans rfl, (blk_cell BK132.out 8).trans rfl, (blk_cell BK132.out 9).trans rfl⟩ (fun hHeld => ?_)
      clear hK K
      refine norm_ (a' := ?_) ?_ ?_
      rotate_left
      · show Act.put _ (some 16) _ = _
        simp only [Act.put, List.setIfInBounds_toArray, List.set_cons_zero, List.set_cons_succ, i64_w, i32_w]
        rfl
      refine pure_ (i := 5) (N := some 11) (v := ?_) (a' := ?_) #[true, true, true, true, true, true, false, false, false] rfl rfl (any_of HT_.out (by kernel_rfl)) (fun _ _ _ h => h) (Or.inl ⟨by rfl, ?_⟩) ?_ ?_
      rotate_left
      · intro w'
        go_simp
        with_reducible rfl
      rotate_left
      · simp only [Act.put, List.setIfInBounds_toArray, List.set_cons_zero, List.set_cons_succ, i64_w, i32_w]
        rfl
      refine pure_ (i := 6) (N := some 17) (v := ?_) (a' := ?_) #[true, true, true, true, true, true, true, false, false] rfl rfl (any_of HT_.out (by kernel_rfl)) (fun _ _ _ h => h) (Or.inl ⟨by rfl, ?_⟩) ?_ ?_
      rotate_left
      · intro w'
        go_simp
        with_reducible rfl
      rotate_left
      · simp only [Act.put, List.setIfInBounds_toArray, List.set_cons_zero, List.set_cons_succ, i64_w, i32_w]
        rfl
      refine pure_ (i := 7) (N := some 18) (v := ?_) (a' := ?_) #[true, true, true, true, true, true, true, true, false] rfl rfl (any_of HT_.out (by kernel_rfl)) (fun _ _ _ h => h) (Or.inl ⟨by rfl, ?_⟩) ?_ ?_
      rotate_left
      · intro w'
        go_simp
        with_reducible rfl
      rotate_left
      · simp only [Act.put, List.setIfInBounds_toArray, List.set_cons_zero, List.set_cons_succ, i64_w, i32_w]
        rfl
      refine pure_ (i := 8) (N := some 6) (v := ?_) (a' := ?_) #[true, true, true, true, true, true, true, true, true] rfl rfl (any_of HT_.out (by kernel_rfl)) (fun _ _ _ h => h) (Or.inl ⟨by rfl, ?_⟩) ?_ ?_
      rotate_left
      · intro w'
        go_simp
        with_reducible rfl
      rotate_left
      · simp only [Act.put, List.setIfInBounds_toArray, List.set_cons_zero, List.set_cons_succ, i64_w, i32_w]
        rfl
      refine done_ (done_of HT_.out (by kernel_rfl)) ?_
      have hnb14 := NB132_133.out
      have hnc14 := NB133_132.out
      have hcz15_0 : w13.cell? ⟨gb132, 0, none⟩ = some (.int .u8 a0_0) := (blk_cell BK132.out 0).trans rfl
      have hcz15_1 : w13.cell? ⟨gb132, 1, none⟩ = some (.int .u16 a0_1) := (blk_cell BK132.out 1).trans rfl
      have hcz15_2 : w13.cell? ⟨gb132, 2, none⟩ = some (.int .u8 a0_2) := (blk_cell BK132.out 2).trans rfl
      have hcz15_3 : w13.cell? ⟨gb132, 3, none⟩ = some (.string a0_3) := (blk_cell BK132.out 3).trans rfl
      have hcz15_4 : w13.cell? ⟨gb132, 4, none⟩ = some (.int .i64 a0_4) := (blk_cell BK132.out 4).trans rfl
      have hcz15_5 : w13.cell? ⟨gb132, 5, none⟩ = some (.int .i64 a0_5) := (blk_cell BK132.out 5).trans rfl
      have hcz15_6 : w13.cell? ⟨gb132, 6, none⟩ = some (.int .i64 a0_6) := (blk_cell BK132.out 6).trans rfl
      have hcz15_7 : w13.cell? ⟨gb132, 7, none⟩ = some (.int .u64 a0_7) := (blk_cell BK132.out 7).trans rfl
      have hcz15_8 : w13.cell? ⟨gb132, 8, none⟩ = some (.bool a0_8) := (blk_cell BK132.out 8).trans rfl
      have hcz15_9 : w13.cell? ⟨gb132, 9, none⟩ = some (.bool a0_9) := (blk_cell BK132.out 9).trans rfl
      have hfz15_0 := blk_frozen BK132.out 0
      have hfz15_1 := blk_frozen BK132.out 1
      have hfz15_2 := blk_frozen BK132.out 2
      have hfz15_3 := blk_frozen BK132.out 3
      have hfz15_4 := blk_frozen BK132.out 4
      have hfz15_5 := blk_frozen BK132.out 5
      have hfz15_6 := blk_frozen BK132.out 6
      have hfz15_7 := blk_frozen BK132.out 7
      have hfz15_8 := blk_frozen BK132.out 8
      have hfz15_9 := blk_frozen BK132.out 9
      try go_wp2
      go_meet
      case rel => exact ⟨_, (t139), (wrap64 (a1 + a0_4)), (IntKind.u64.wrap (a0_7 + 1)), (by first | rfl | (simp; done) | (simp [*]; done)), H', ⟨by first | omega | exact Nat.le_refl _⟩, ⟨by (with_reducible repeat (first | refine blk_drewN ?_ _ | refine blk_drew ?_ | refine blk_alloc ?_ _)); refine blk_put (cs := #[.int .u8 a0_0, .int .u16 a0_1, .int .u8 a0_2, .string a0_3, .int .i64 a0_4, .int .i64 a0_5, .int .i64 a0_6, .int .u64 (IntKind.u64.wrap (a0_7 + 1)), .bool a0_8, .bool a0_9]) ?_ 6 _ rfl; (with_reducible repeat (first | refine blk_drewN ?_ _ | refine blk_drew ?_ | refine blk_alloc ?_ _)); refine blk_put (cs := #[.int .u8 a0_0, .int .u16 a0_1, .int .u8 a0_2, .string a0_3, .int .i64 a0_4, .int .i64 a0_5, .int .i64 a0_6, .int .u64 a0_7, .bool a0_8, .bool a0_9]) ?_ 7 _ rfl; (with_reducible repeat (first | refine blk_drewN ?_ _ | refine blk_drew ?_ | refine blk_alloc ?_ _)); exact BK132.out⟩, ⟨by (with_reducible repeat (first | refine blk_drewN ?_ _ | refine blk_drew ?_ | refine blk_alloc ?_ _)); refine blk_far ?_ NB133_132.out _; (with_reducible repeat (first | refine blk_drewN ?_ _ | refine blk_drew ?_ | refine blk_alloc ?_ _)); refine blk_far ?_ NB133_132.out _; (with_reducible repeat (first | refine blk_drewN ?_ _ | refine blk_drew ?_ | refine blk_alloc ?_ _)); exact BK133.out⟩, ⟨by repeat (first | (with_reducible first | exact HB.out | apply below_alloc | apply pw_below_drewN | apply below_drew1 | refine below_set ?_ GE132.out | refine below_set ?_ GE133.out) | exact HB.out)⟩⟩
    · rw [if_neg c8] at H
      have c8b0 : decide (a0_6 ≤ a1) = false := decide_eq_false c8
      clear c8
      (first | rw [c8b0] | (simp only [i64_w, i32_w]; rw [c8b0]) | skip)
      have H' := Aside0.mk H
      clear H
      go_wp2
      go_meet
      case rel => exact ⟨_, ((⟨#[]⟩ : ByteArray)), (a0_6), (a0_7), (by first | rfl | (simp; done) | (simp [*]; done)), H', ⟨by first | omega | exact Nat.le_refl _⟩, ⟨by (with_reducible repeat (first | refine blk_drewN ?_ _ | refine blk_drew ?_ | refine blk_alloc ?_ _)); exact BK132.out⟩, ⟨by (with_reducible repeat (first | refine blk_drewN ?_ _ | refine blk_drew ?_ | refine blk_alloc ?_ _)); exact BK133.out⟩, ⟨by repeat (first | (with_reducible first | exact HB.out | apply below_alloc | apply pw_below_drewN | apply below_drew1 | refine below_set ?_ GE132.out | refine below_set ?_ GE133.out) | exact HB.out)⟩⟩
  case rest =>
    clear HC3
    try clear c1
    try clear c2
    try clear p2
    try clear c3
    try clear c6
    try clear p6
    try clear c8
    try clear c8b0
    try clear c14
    try clear hcz15_0
    try clear hcz15_1
    try clear hcz15_2
    try clear hcz15_3
    try clear hcz15_4
    try clear hcz15_5
    try clear hcz15_6
    try clear hcz15_7
    try clear hcz15_8
    try clear hcz15_9
    try clear hcz7_0
    try clear hcz7_1
    try clear hcz7_2
    try clear hcz7_3
    try clear hcz7_4
    try clear hcz7_5
    try clear hcz7_6
    try clear hcz7_7
    try clear hcz7_8
    try clear hcz7_9
    try clear hfz15_0
    try clear hfz15_1
    try clear hfz15_2
    try clear hfz15_3
    try clear hfz15_4
    try clear hfz15_5
    try clear hfz15_6
    try clear hfz15_7
    try clear hfz15_8
    try clear hfz15_9
    try clear hfz7_0
    try clear hfz7_1
    try clear hfz7_2
    try clear hfz7_3
    try clear hfz7_4
    try clear hfz7_5
    try clear hfz7_6
    try clear hfz7_7
    try clear hfz7_8
    try clear hfz7_9
    obtain ⟨kq, x6_2, x133006_2, x133007_2, rfl, HA, HJ2, BK132, BK133, HB⟩ := hcut
    cases kq with
    | zero => exact absurd HA.out (by simp [watch_Watch_Tick.j0])
    | succ kj2 =>
      have H := HA.out
      clear HA
      simp only [watch_Watch_Tick.j0] at H
      by_cases c16 : (wrap64 (2 * (wrap64 (a1 - a0_5)))) > (wrap64 (7 * a0_4))
      · rw [if_pos c16] at H
        have c16b0 : decide ((wrap64 (7 * a0_4)) < (wrap64 (2 * (wrap64 (a1 - a0_5))))) = true := decide_eq_true c16
        clear c16
        simp only [Option.some.injEq, Prod.mk.injEq] at H
        obtain ⟨rfl, rfl, rfl, rfl, rfl, rfl, rfl, rfl, rfl, rfl, rfl⟩ := H
        have hnb17 := NB132_133.out
        have hnc17 := NB133_132.out
        have hcz18_0 : wc.cell? ⟨gb132, 0, none⟩ = some (.int .u8 a0_0) := (blk_cell BK132.out 0).trans rfl
        have hcz18_1 : wc.cell? ⟨gb132, 1, none⟩ = some (.int .u16 a0_1) := (blk_cell BK132.out 1).trans rfl
        have hcz18_2 : wc.cell? ⟨gb132, 2, none⟩ = some (.int .u8 a0_2) := (blk_cell BK132.out 2).trans rfl
        have hcz18_3 : wc.cell? ⟨gb132, 3, none⟩ = some (.string a0_3) := (blk_cell BK132.out 3).trans rfl
        have hcz18_4 : wc.cell? ⟨gb132, 4, none⟩ = some (.int .i64 a0_4) := (blk_cell BK132.out 4).trans rfl
        have hcz18_5 : wc.cell? ⟨gb132, 5, none⟩ = some (.int .i64 a0_5) := (blk_cell BK132.out 5).trans rfl
        have hcz18_6 : wc.cell? ⟨gb132, 6, none⟩ = some (.int .i64 x133006_2) := (blk_cell BK132.out 6).trans rfl
        have hcz18_7 : wc.cell? ⟨gb132, 7, none⟩ = some (.int .u64 x133007_2) := (blk_cell BK132.out 7).trans rfl
        have hcz18_8 : wc.cell? ⟨gb132, 8, none⟩ = some (.bool a0_8) := (blk_cell BK132.out 8).trans rfl
        have hcz18_9 : wc.cell? ⟨gb132, 9, none⟩ = some (.bool a0_9) := (blk_cell BK132.out 9).trans rfl
        have hfz18_0 := blk_frozen BK132.out 0
        have hfz18_1 := blk_frozen BK132.out 1
        have hfz18_2 := blk_frozen BK132.out 2
        have hfz18_3 := blk_frozen BK132.out 3
        have hfz18_4 := blk_frozen BK132.out 4
        have hfz18_5 := blk_frozen BK132.out 5
        have hfz18_6 := blk_frozen BK132.out 6
        have hfz18_7 := blk_frozen BK132.out 7
        have hfz18_8 := blk_frozen BK132.out 8
        have hfz18_9 := blk_frozen BK132.out 9
        have hcz19_0 : wc.cell? ⟨gb133, 0, none⟩ = some (.int .u8 0) := (blk_cell BK133.out 0).trans rfl
        have hcz19_1 : wc.cell? ⟨gb133, 1, none⟩ = some (.int .u16 0) := (blk_cell BK133.out 1).trans rfl
        have hcz19_2 : wc.cell? ⟨gb133, 2, none⟩ = some (.int .u8 0) := (blk_cell BK133.out 2).trans rfl
        have hcz19_3 : wc.cell? ⟨gb133, 3, none⟩ = some (.string (⟨#[]⟩ : ByteArray)) := (blk_cell BK133.out 3).trans rfl
        have hcz19_4 : wc.cell? ⟨gb133, 4, none⟩ = some (.int .i64 0) := (blk_cell BK133.out 4).trans rfl
        have hcz19_5 : wc.cell? ⟨gb133, 5, none⟩ = some (.int .i64 0) := (blk_cell BK133.out 5).trans rfl
        have hcz19_6 : wc.cell? ⟨gb133, 6, none⟩ = some (.int .i64 0) := (blk_cell BK133.out 6).trans rfl
        have hcz19_7 : wc.cell? ⟨gb133, 7, none⟩ = some (.int .u64 0) := (blk_cell BK133.out 7).trans rfl
        have hcz19_8 : wc.cell? ⟨gb133, 8, none⟩ = some (.bool false) := (blk_cell BK133.out 8).trans rfl
        have hcz19_9 : wc.cell? ⟨gb133, 9, none⟩ = some (.bool false) := (blk_cell BK133.out 9).trans rfl
        have hfz19_0 := blk_frozen BK133.out 0
        have hfz19_1 := blk_frozen BK133.out 1
        have hfz19_2 := blk_frozen BK133.out 2
        have hfz19_3 := blk_frozen BK133.out 3
        have hfz19_4 := blk_frozen BK133.out 4
        have hfz19_5 := blk_frozen BK133.out 5
        have hfz19_6 := blk_frozen BK133.out 6
        have hfz19_7 := blk_frozen BK133.out 7
        have hfz19_8 := blk_frozen BK133.out 8
        have hfz19_9 := blk_frozen BK133.out 9
        go_wp2
        refine bodyPost_ret (results_ct rfl _ _ gb133 42 #[.int .u8 a0_0, .int .u16 a0_1, .int .u8 a0_2, .string a0_3, .int .i64 a0_4, .int .i64 a0_5, .int .i64 x133006_2, .int .u64 x133007_2, .bool true, .bool a0_9] (0, 0) _ rfl (by (with_reducible repeat (first | refine blk_drewN ?_ _ | refine blk_drew ?_ | refine blk_alloc ?_ _)); refine blk_put (cs := #[.int .u8 a0_0, .int .u16 a0_1, .int .u8 a0_2, .string a0_3, .int .i64 a0_4, .int .i64 a0_5, .int .i64 x133006_2, .int .u64 x133007_2, .bool true, .bool false]) ?_ 9 _ rfl; (with_reducible repeat (first | refine blk_drewN ?_ _ | refine blk_drew ?_ | refine blk_alloc ?_ _)); refine blk_put (cs := #[.int .u8 a0_0, .int .u16 a0_1, .int .u8 a0_2, .string a0_3, .int .i64 a0_4, .int .i64 a0_5, .int .i64 x133006_2, .int .u64 x133007_2, .bool false, .bool false]) ?_ 8 _ rfl; (with_reducible repeat (first | refine blk_drewN ?_ _ | refine blk_drew ?_ | refine blk_alloc ?_ _)); refine blk_put (cs := #[.int .u8 a0_0, .int .u16 a0_1, .int .u8 a0_2, .string a0_3, .int .i64 a0_4, .int .i64 a0_5, .int .i64 x133006_2, .int .u64 0, .bool false, .bool false]) ?_ 7 _ rfl; (with_reducible repeat (first | refine blk_drewN ?_ _ | refine blk_drew ?_ | refine blk_alloc ?_ _)); refine blk_put (cs := #[.int .u8 a0_0, .int .u16 a0_1, .int .u8 a0_2, .string a0_3, .int .i64 a0_4, .int .i64 a0_5, .int .i64 0, .int .u64 0, .bool false, .bool false]) ?_ 6 _ rfl; (with_reducible repeat (first | refine blk_drewN ?_ _ | refine blk_drew ?_ | refine blk_alloc ?_ _)); refine blk_put (cs := #[.int .u8 a0_0, .int .u16 a0_1, .int .u8 a0_2, .string a0_3, .int .i64 a0_4, .int .i64 0, .int .i64 0, .int .u64 0, .bool false, .bool false]) ?_ 5 _ rfl; (with_reducible repeat (first | refine blk_drewN ?_ _ | refine blk_drew ?_ | refine blk_alloc ?_ _)); refine blk_put (cs := #[.int .u8 a0_0, .int .u16 a0_1, .int .u8 a0_2, .string a0_3, .int .i64 0, .int .i64 0, .int .i64 0, .int .u64 0, .bool false, .bool false]) ?_ 4 _ rfl; (with_reducible repeat (first | refine blk_drewN ?_ _ | refine blk_drew ?_ | refine blk_alloc ?_ _)); refine blk_put (cs := #[.int .u8 a0_0, .int .u16 a0_1, .int .u8 a0_2, .string (⟨#[]⟩ : ByteArray), .int .i64 0, .int .i64 0, .int .i64 0, .int .u64 0, .bool false, .bool false]) ?_ 3 _ rfl; (with_reducible repeat (first | refine blk_drewN ?_ _ | refine blk_drew ?_ | refine blk_alloc ?_ _)); refine blk_put (cs := #[.int .u8 a0_0, .int .u16 a0_1, .int .u8 0, .string (⟨#[]⟩ : ByteArray), .int .i64 0, .int .i64 0, .int .i64 0, .int .u64 0, .bool false, .bool false]) ?_ 2 _ rfl; (with_reducible repeat (first | refine blk_drewN ?_ _ | refine blk_drew ?_ | refine blk_alloc ?_ _)); refine blk_put (cs := #[.int .u8 a0_0, .int .u16 0, .int .u8 0, .string (⟨#[]⟩ : ByteArray), .int .i64 0, .int .i64 0, .int .i64 0, .int .u64 0, .bool false, .bool false]) ?_ 1 _ rfl; (with_reducible repeat (first | refine blk_drewN ?_ _ | refine blk_drew ?_ | refine blk_alloc ?_ _)); refine blk_put (cs := #[.int .u8 0, .int .u16 0, .int .u8 0, .string (⟨#[]⟩ : ByteArray), .int .i64 0, .int .i64 0, .int .i64 0, .int .u64 0, .bool false, .bool false]) ?_ 0 _ rfl; (with_reducible repeat (first | refine blk_drewN ?_ _ | refine blk_drew ?_ | refine blk_alloc ?_ _)); refine blk_far ?_ NB133_132.out _; (with_reducible repeat (first | refine blk_drewN ?_ _ | refine blk_drew ?_ | refine blk_alloc ?_ _)); exact BK133.out) Try.underlying42 rfl (by kernel_rfl)) rfl ?_
        exact ⟨by first | rfl | (simp [errW_none, errW_some] <;> rfl) | (simp [*, errW_none, errW_some] <;> rfl), by repeat (first | (with_reducible first | exact HB.out | apply below_alloc | apply pw_below_drewN | apply below_drew1 | refine below_set ?_ GE132.out | refine below_set ?_ GE133.out) | exact HB.out)⟩
      · rw [if_neg c16] at H
        have c16b0 : decide ((wrap64 (7 * a0_4)) < (wrap64 (2 * (wrap64 (a1 - a0_5))))) = false := decide_eq_false c16
        clear c16
        simp only [Option.some.injEq, Prod.mk.injEq] at H
        obtain ⟨rfl, rfl, rfl, rfl, rfl, rfl, rfl, rfl, rfl, rfl, rfl⟩ := H
        have hnb20 := NB132_133.out
        have hnc20 := NB133_132.out
        have hcz21_0 : wc.cell? ⟨gb132, 0, none⟩ = some (.int .u8 a0_0) := (blk_cell BK132.out 0).trans rfl
        have hcz21_1 : wc.cell? ⟨gb132, 1, none⟩ = some (.int .u16 a0_1) := (blk_cell BK132.out 1).trans rfl
        have hcz21_2 : wc.cell? ⟨gb132, 2, none⟩ = some (.int .u8 a0_2) := (blk_cell BK132.out 2).trans rfl
        have hcz21_3 : wc.cell? ⟨gb132, 3, none⟩ = some (.string a0_3) := (blk_cell BK132.out 3).trans rfl
        have hcz21_4 : wc.cell? ⟨gb132, 4, none⟩ = some (.int .i64 a0_4) := (blk_cell BK132.out 4).trans rfl
        have hcz21_5 : wc.cell? ⟨gb132, 5, none⟩ = some (.int .i64 a0_5) := (blk_cell BK132.out 5).trans rfl
        have hcz21_6 : wc.cell? ⟨gb132, 6, none⟩ = some (.int .i64 x133006_2) := (blk_cell BK132.out 6).trans rfl
        have hcz21_7 : wc.cell? ⟨gb132, 7, none⟩ = some (.int .u64 x133007_2) := (blk_cell BK132.out 7).trans rfl
        have hcz21_8 : wc.cell? ⟨gb132, 8, none⟩ = some (.bool a0_8) := (blk_cell BK132.out 8).trans rfl
        have hcz21_9 : wc.cell? ⟨gb132, 9, none⟩ = some (.bool a0_9) := (blk_cell BK132.out 9).trans rfl
        have hfz21_0 := blk_frozen BK132.out 0
        have hfz21_1 := blk_frozen BK132.out 1
        have hfz21_2 := blk_frozen BK132.out 2
        have hfz21_3 := blk_frozen BK132.out 3
        have hfz21_4 := blk_frozen BK132.out 4
        have hfz21_5 := blk_frozen BK132.out 5
        have hfz21_6 := blk_frozen BK132.out 6
        have hfz21_7 := blk_frozen BK132.out 7
        have hfz21_8 := blk_frozen BK132.out 8
        have hfz21_9 := blk_frozen BK132.out 9
        have hcz22_0 : wc.cell? ⟨gb133, 0, none⟩ = some (.int .u8 0) := (blk_cell BK133.out 0).trans rfl
        have hcz22_1 : wc.cell? ⟨gb133, 1, none⟩ = some (.int .u16 0) := (blk_cell BK133.out 1).trans rfl
        have hcz22_2 : wc.cell? ⟨gb133, 2, none⟩ = some (.int .u8 0) := (blk_cell BK133.out 2).trans rfl
        have hcz22_3 : wc.cell? ⟨gb133, 3, none⟩ = some (.string (⟨#[]⟩ : ByteArray)) := (blk_cell BK133.out 3).trans rfl
        have hcz22_4 : wc.cell? ⟨gb133, 4, none⟩ = some (.int .i64 0) := (blk_cell BK133.out 4).trans rfl
        have hcz22_5 : wc.cell? ⟨gb133, 5, none⟩ = some (.int .i64 0) := (blk_cell BK133.out 5).trans rfl
        have hcz22_6 : wc.cell? ⟨gb133, 6, none⟩ = some (.int .i64 0) := (blk_cell BK133.out 6).trans rfl
        have hcz22_7 : wc.cell? ⟨gb133, 7, none⟩ = some (.int .u64 0) := (blk_cell BK133.out 7).trans rfl
        have hcz22_8 : wc.cell? ⟨gb133, 8, none⟩ = some (.bool false) := (blk_cell BK133.out 8).trans rfl
        have hcz22_9 : wc.cell? ⟨gb133, 9, none⟩ = some (.bool false) := (blk_cell BK133.out 9).trans rfl
        have hfz22_0 := blk_frozen BK133.out 0
        have hfz22_1 := blk_frozen BK133.out 1
        have hfz22_2 := blk_frozen BK133.out 2
        have hfz22_3 := blk_frozen BK133.out 3
        have hfz22_4 := blk_frozen BK133.out 4
        have hfz22_5 := blk_frozen BK133.out 5
        have hfz22_6 := blk_frozen BK133.out 6
        have hfz22_7 := blk_frozen BK133.out 7
        have hfz22_8 := blk_frozen BK133.out 8
        have hfz22_9 := blk_frozen BK133.out 9
        go_wp2
        refine bodyPost_ret (results_ct rfl _ _ gb133 42 #[.int .u8 a0_0, .int .u16 a0_1, .int .u8 a0_2, .string a0_3, .int .i64 a0_4, .int .i64 a0_5, .int .i64 x133006_2, .int .u64 x133007_2, .bool a0_8, .bool a0_9] (0, 0) _ rfl (by (with_reducible repeat (first | refine blk_drewN ?_ _ | refine blk_drew ?_ | refine blk_alloc ?_ _)); refine blk_put (cs := #[.int .u8 a0_0, .int .u16 a0_1, .int .u8 a0_2, .string a0_3, .int .i64 a0_4, .int .i64 a0_5, .int .i64 x133006_2, .int .u64 x133007_2, .bool a0_8, .bool false]) ?_ 9 _ rfl; (with_reducible repeat (first | refine blk_drewN ?_ _ | refine blk_drew ?_ | refine blk_alloc ?_ _)); refine blk_put (cs := #[.int .u8 a0_0, .int .u16 a0_1, .int .u8 a0_2, .string a0_3, .int .i64 a0_4, .int .i64 a0_5, .int .i64 x133006_2, .int .u64 x133007_2, .bool false, .bool false]) ?_ 8 _ rfl; (with_reducible repeat (first | refine blk_drewN ?_ _ | refine blk_drew ?_ | refine blk_alloc ?_ _)); refine blk_put (cs := #[.int .u8 a0_0, .int .u16 a0_1, .int .u8 a0_2, .string a0_3, .int .i64 a0_4, .int .i64 a0_5, .int .i64 x133006_2, .int .u64 0, .bool false, .bool false]) ?_ 7 _ rfl; (with_reducible repeat (first | refine blk_drewN ?_ _ | refine blk_drew ?_ | refine blk_alloc ?_ _)); refine blk_put (cs := #[.int .u8 a0_0, .int .u16 a0_1, .int .u8 a0_2, .string a0_3, .int .i64 a0_4, .int .i64 a0_5, .int .i64 0, .int .u64 0, .bool false, .bool false]) ?_ 6 _ rfl; (with_reducible repeat (first | refine blk_drewN ?_ _ | refine blk_drew ?_ | refine blk_alloc ?_ _)); refine blk_put (cs := #[.int .u8 a0_0, .int .u16 a0_1, .int .u8 a0_2, .string a0_3, .int .i64 a0_4, .int .i64 0, .int .i64 0, .int .u64 0, .bool false, .bool false]) ?_ 5 _ rfl; (with_reducible repeat (first | refine blk_drewN ?_ _ | refine blk_drew ?_ | refine blk_alloc ?_ _)); refine blk_put (cs := #[.int .u8 a0_0, .int .u16 a0_1, .int .u8 a0_2, .string a0_3, .int .i64 0, .int .i64 0, .int .i64 0, .int .u64 0, .bool false, .bool false]) ?_ 4 _ rfl; (with_reducible repeat (first | refine blk_drewN ?_ _ | refine blk_drew ?_ | refine blk_alloc ?_ _)); refine blk_put (cs := #[.int .u8 a0_0, .int .u16 a0_1, .int .u8 a0_2, .string (⟨#[]⟩ : ByteArray), .int .i64 0, .int .i64 0, .int .i64 0, .int .u64 0, .bool false, .bool false]) ?_ 3 _ rfl; (with_reducible repeat (first | refine blk_drewN ?_ _ | refine blk_drew ?_ | refine blk_alloc ?_ _)); refine blk_put (cs := #[.int .u8 a0_0, .int .u16 a0_1, .int .u8 0, .string (⟨#[]⟩ : ByteArray), .int .i64 0, .int .i64 0, .int .i64 0, .int .u64 0, .bool false, .bool false]) ?_ 2 _ rfl; (with_reducible repeat (first | refine blk_drewN ?_ _ | refine blk_drew ?_ | refine blk_alloc ?_ _)); refine blk_put (cs := #[.int .u8 a0_0, .int .u16 0, .int .u8 0, .string (⟨#[]⟩ : ByteArray), .int .i64 0, .int .i64 0, .int .i64 0, .int .u64 0, .bool false, .bool false]) ?_ 1 _ rfl; (with_reducible repeat (first | refine blk_drewN ?_ _ | refine blk_drew ?_ | refine blk_alloc ?_ _)); refine blk_put (cs := #[.int .u8 0, .int .u16 0, .int .u8 0, .string (⟨#[]⟩ : ByteArray), .int .i64 0, .int .i64 0, .int .i64 0, .int .u64 0, .bool false, .bool false]) ?_ 0 _ rfl; (with_reducible repeat (first | refine blk_drewN ?_ _ | refine blk_drew ?_ | refine blk_alloc ?_ _)); exact BK133.out) Try.underlying42 rfl (by kernel_rfl)) rfl ?_
        exact ⟨by first | rfl | (simp [errW_none, errW_some] <;> rfl) | (simp [*, errW_none, errW_some] <;> rfl), by repeat (first | (with_reducible first | exact HB.out | apply below_alloc | apply pw_below_drewN | apply below_drew1 | refine below_set ?_ GE132.out | refine below_set ?_ GE133.out) | exact HB.out)⟩

/-! ### ccm_Name: function 28 -/
def ccm_Name.f (a0 : ByteArray) : Option (ByteArray) := if (a0.size : Int) > 48 then (if 0 ≤ 48 then (if 48 ≤ (a0.size : Int) then (some (a0.extract 0 48)) else (none)) else (none)) else ((strings_Repeat.f (⟨#[0]⟩ : ByteArray) (wrap64 (48 - (a0.size : Int)))).bind fun t141 => (if a0.size + t141.size ≤ 9223372036854775807 then (some (a0 ++ t141)) else (none)))
set_option maxHeartbeats 8000000 in
set_option maxRecDepth 100000 in
theorem ccm_Name.calls (a0 : ByteArray) (r : ByteArray) (w : World) (h : ccm_Name.f a0 = some r) :
    Calls Try.prog 28 #[.string a0] w fun e w' => e = .returned (.string r) ∧ Below w.heap.size w w' := by
  have HB := Aside0.mk (Below.refl w.heap.size w)
  have H : (if (a0.size : Int) > 48 then (if 0 ≤ 48 then (if 48 ≤ (a0.size : Int) then (some (a0.extract 0 48)) else (none)) else (none)) else ((strings_Repeat.f (⟨#[0]⟩ : ByteArray) (wrap64 (48 - (a0.size : Int)))).bind fun t141 => (if a0.size + t141.size ≤ 9223372036854775807 then (some (a0 ++ t141)) else (none)))) = some r := h
  clear h
  by_cases c2 : (a0.size : Int) > 48
  · rw [if_pos c2] at H
    have c2b0 : decide (48 < (a0.size : Int)) = true := decide_eq_true c2
    have c2b1 : decide (48 < a0.size) = true := decide_eq_true (by omega)
    clear c2
    by_cases c3 : 0 ≤ 48
    · rw [if_pos c3] at H
      have c3b0 := eq_true c3
      have c3b1 : decide (0 ≤ 48) = true := decide_eq_true c3
      clear c3
      by_cases c4 : 48 ≤ (a0.size : Int)
      · rw [if_pos c4] at H
        have c4b0 := eq_true c4
        have c4b1 : decide (48 ≤ (a0.size : Int)) = true := decide_eq_true c4
        clear c4
        obtain rfl := Option.some.inj H
        go_enter Try.func28, Try.ntmps28
        go_wp2
        go_ret
        exact ⟨by first | rfl | (simp [errW_none, errW_some] <;> rfl) | (simp [*, errW_none, errW_some] <;> rfl), by repeat (first | (with_reducible first | exact HB.out | apply below_alloc | apply pw_below_drewN | apply below_drew1) | exact HB.out)⟩
      · rw [if_neg c4] at H
        exact absurd H (by simp)
    · rw [if_neg c3] at H
      exact absurd H (by simp)
  · rw [if_neg c2] at H
    have c2b0 : decide (48 < (a0.size : Int)) = false := decide_eq_false c2
    have c2b1 : decide (48 < a0.size) = false := decide_eq_false (by omega)
    clear c2
    replace H := Option.bind_eq_some_iff.mp H
    obtain ⟨t141, A50, H⟩ := H
    replace H : (if a0.size + t141.size ≤ 9223372036854775807 then (some (a0 ++ t141)) else (none)) = some r := H
    have A5 := Aside0.mk A50
    clear A50
    by_cases c6 : a0.size + t141.size ≤ 9223372036854775807
    · rw [if_pos c6] at H
      have c6b0 := eq_true c6
      have c6b1 : decide (a0.size + t141.size ≤ 9223372036854775807) = true := decide_eq_true c6
      try have c6b2 : (9223372036854775807 < a0.size + t141.size) = False := eq_false (Nat.not_lt.2 c6)
      obtain rfl := Option.some.inj H
      go_enter Try.func28, Try.ntmps28
      go_wp2_with (first | ((with_reducible refine gate_callee (f := 42) rfl ?_); refine goesL_ (some 12) rfl rfl Try.func42 (by kernel_rfl) rfl #[.string (⟨#[0]⟩ : ByteArray), .int .i64 (48 - (a0.size : Int))] rfl (by (try simp only [List.map_toArray, List.map_cons, List.map_nil]); first | done | rfl | (simp only [List.length_drop, List.length_take]; rfl)) ?_; (with_reducible refine (strings_Repeat.calls (⟨#[0]⟩ : ByteArray) (48 - (a0.size : Int)) t141 _ (by have h_ := A5.out; rwa [show wrap64 (48 - (a0.size : Int)) = 48 - (a0.size : Int) from by (have hz_ := of_decide_eq_false c2b0); unfold wrap64; omega] at h_)).mono ?_); rintro e w7 ⟨rfl, hb⟩; refine ⟨_, rfl, ?_⟩; have n0_ := Aside0.mk (below_step (by repeat (first | (with_reducible first | exact HB.out | apply below_alloc | apply pw_below_drewN | apply below_drew1) | exact HB.out)) hb); clear HB; have HB := n0_; clear n0_; (try clear hb); (try clear hb2); (try clear hk); (try clear hi)))
      go_ret
      exact ⟨by first | rfl | (simp [errW_none, errW_some] <;> rfl) | (simp [*, errW_none, errW_some] <;> rfl), by repeat (first | (with_reducible first | exact HB.out | apply below_alloc | apply pw_below_drewN | apply below_drew1) | exact HB.out)⟩
    · rw [if_neg c6] at H
      exact absurd H (by simp)

/-! ### carousellaw01_Awake: function 52 -/
def carousellaw01_Awake.f  : Option (Bool) := (field_Pack.f (([(⟨3, 5⟩ : S100), (⟨1, 0⟩ : S100), (⟨12, 100⟩ : S100)] : List (S100)))).bind fun bt145 => (if bt145.1.toList = ([160, 100] : List UInt8) then (some (bt145.2 == 0)) else (some false))
set_option maxHeartbeats 8000000 in
set_option maxRecDepth 100000 in
theorem carousellaw01_Awake.calls  (r : Bool) (w : World) (h : carousellaw01_Awake.f  = some r) :
    Calls Try.prog 52 #[] w fun e w' => e = .returned (.bool r) ∧ Below w.heap.size w w' := by
  have hT : r = true := by
    have h1_ : carousellaw01_Awake.f = some true := by decide +kernel
    rw [h1_] at h
    exact (Option.some.inj h).symm
  have hu100 := Try.underlying100
  have HB := Aside0.mk (Below.refl w.heap.size w)
  have H : ((field_Pack.f (([(⟨3, 5⟩ : S100), (⟨1, 0⟩ : S100), (⟨12, 100⟩ : S100)] : List (S100)))).bind fun bt145 => (if bt145.1.toList = ([160, 100] : List UInt8) then (some (bt145.2 == 0)) else (some false))) = some r := h
  clear h
  obtain ⟨y142, hy142⟩ : ∃ y_ : List (S100), y_ = (([(⟨3, 5⟩ : S100), (⟨1, 0⟩ : S100), (⟨12, 100⟩ : S100)] : List (S100))) := ⟨_, rfl⟩
  replace H : ((field_Pack.f y142).bind fun bt145 => (if bt145.1.toList = ([160, 100] : List UInt8) then (some (bt145.2 == 0)) else (some false))) = some r := by first | (rw [hy142]; with_reducible exact H) | (have H2_ := (Option.bind_some _ _).symm.trans H; rw [hy142]; with_reducible exact H2_) | (have H2_ := (Option.bind_some _ _).symm.trans H; with_reducible exact H2_) | with_reducible exact H | (rw [hy142]; exact H) | exact H
  have Ny142 := Aside0.mk hy142
  clear hy142
  replace H := Option.bind_eq_some_iff.mp H
  obtain ⟨⟨t145, t146⟩, A10, H⟩ := H
  replace H : (if t145.toList = ([160, 100] : List UInt8) then (some (t146 == 0)) else (some false)) = some r := H
  have A1 := Aside0.mk A10
  clear A10
  by_cases c2 : t145.toList = ([160, 100] : List UInt8)
  · rw [if_pos c2] at H
    have c2b0 : (t145.toList == ([160, 100] : List UInt8)) = true := beq_iff_eq.mpr c2
    have c2b1 : (t145.toList != ([160, 100] : List UInt8)) = false := bne_eq_false_iff_eq.mpr c2
    clear c2
    obtain rfl := Option.some.inj H
    go_enter Try.func52, Try.ntmps52
    go_wp2_with (first | ((with_reducible refine gate_dst (N := 7) rfl ?_); refine Kd.R_lit k100 _ 100 ?hg (N := 7) ?hd (xs := ([(⟨3, 5⟩ : S100), (⟨1, 0⟩ : S100), (⟨12, 100⟩ : S100)] : List (S100))) (inner := [.int .i64 3, .int .u64 5, .int .i64 1, .int .u64 0, .int .i64 12, .int .u64 100]) (ok := fun _ => True) (okp := fun _ => True) ?hr ?hp (fun _ hk => hk) trivial (Below.refl _ _) (Nat.le_refl _) (by simp) ?_; (case hd => rfl); (case hg => rfl); (case hr => first | (go_simp; done) | (go_simp; rfl)); (case hp => exact (Reps.c2 (show Kd.M k100 _ _ _ (⟨3, 5⟩ : S100) [.int .i64 3, .int .u64 5] from (k100_mkM _ _ _ (⟨3, 5⟩ : S100) )) (Reps.c2 (show Kd.M k100 _ _ _ (⟨1, 0⟩ : S100) [.int .i64 1, .int .u64 0] from (k100_mkM _ _ _ (⟨1, 0⟩ : S100) )) (Reps.c2 (show Kd.M k100 _ _ _ (⟨12, 100⟩ : S100) [.int .i64 12, .int .u64 100] from (k100_mkM _ _ _ (⟨12, 100⟩ : S100) )) (Reps.none _ _))))); intro v143 w3 ho4 hb hg_ hnew_; clear hg_ hnew_; (first | rw [← Ny142.out] at ho4 | (simp only [Int.reduceToNat] at ho4; rw [← Ny142.out] at ho4)); have n0_ := Aside0.mk (Kd.R_lower ho4 (below_size (by repeat (first | (with_reducible first | exact HB.out | apply below_alloc | apply pw_below_drewN | apply below_drew1) | exact HB.out)))); have n1_ := Aside0.mk (below_step (by repeat (first | (with_reducible first | exact HB.out | apply below_alloc | apply pw_below_drewN | apply below_drew1) | exact HB.out)) hb); clear HB; have HO144 := n0_; have HB := n1_; clear n0_ n1_; clear hb ho4; obtain ⟨Ao5, co5, eo5⟩ := Kd.R_slice HO144.out; subst eo5) | ((with_reducible refine gate_callee (f := 55) rfl ?_); refine goesL_ (some 8) rfl rfl Try.func55 (by kernel_rfl) rfl #[.slice Ao5 y142.length co5] rfl (by (try simp only [List.map_toArray, List.map_cons, List.map_nil]); first | done | rfl | (simp only [List.length_drop, List.length_take]; rfl)) ?_; (with_reducible refine (field_Pack.calls _ _ y142 t145 t146 _ ?side1 ?side2 A1.out).mono ?_); (case side1 => repeat (first | exact (Kd.R_reads' HO144.out).2.2 | (with_reducible refine Kd.C_alloc ?_ _) | (with_reducible refine Kd.C_drewN ?_ _) | (with_reducible refine Kd.C_drew ?_))); (case side2 => exact (Kd.R_reads' HO144.out).2.1); rintro e w6 ⟨rfl, hb⟩; refine ⟨_, rfl, ?_⟩; have n0_ := Aside0.mk (Kd.R_below (by (with_reducible repeat (first | apply Kd.R_alloc | apply Kd.R_drewN | apply Kd.R_drew)); exact HO144.out) hb); have n1_ := Aside0.mk (below_step (by repeat (first | (with_reducible first | exact HB.out | apply below_alloc | apply pw_below_drewN | apply below_drew1) | exact HB.out)) hb); clear HO144; clear HB; have HO144 := n0_; have HB := n1_; clear n0_ n1_; (try clear hb); (try clear hb2); (try clear hk); (try clear hi)))
    go_ret
    exact ⟨by first | rfl | (simp [errW_none, errW_some] <;> rfl) | (simp [*, errW_none, errW_some] <;> rfl), by repeat (first | (with_reducible first | exact HB.out | apply below_alloc | apply pw_below_drewN | apply below_drew1) | exact HB.out)⟩
  · rw [if_neg c2] at H
    have c2b0 : (t145.toList == ([160, 100] : List UInt8)) = false := beq_eq_false_iff_ne.mpr c2
    have c2b1 : (t145.toList != ([160, 100] : List UInt8)) = true := bne_iff_ne.mpr c2
    cases (Option.some.inj H).trans hT

/-! ### carousellaw04_Awake: function 54 -/
def carousellaw04_Awake.f  : Option (Bool) := (oam_Close.f 7 1 40 0 0 (⟨#[]⟩ : ByteArray)).bind fun bt147 => ((carousellaw01_Awake.f).bind fun t149 => (if t149 = true then (if bt147.2 = 0 then (some (bt147.1.toList == ([225, 40, 0, 0, 0] : List UInt8))) else (some false)) else (some false)))
set_option maxHeartbeats 8000000 in
set_option maxRecDepth 100000 in
theorem carousellaw04_Awake.calls  (r : Bool) (w : World) (h : carousellaw04_Awake.f  = some r) :
    Calls Try.prog 54 #[] w fun e w' => e = .returned (.bool r) ∧ Below w.heap.size w w' := by
  have hT : r = true := by
    have h1_ : carousellaw04_Awake.f = some true := by decide +kernel
    rw [h1_] at h
    exact (Option.some.inj h).symm
  have hu84 := Try.underlying84
  have HB := Aside0.mk (Below.refl w.heap.size w)
  have H : ((oam_Close.f 7 1 40 0 0 (⟨#[]⟩ : ByteArray)).bind fun bt147 => ((carousellaw01_Awake.f).bind fun t149 => (if t149 = true then (if bt147.2 = 0 then (some (bt147.1.toList == ([225, 40, 0, 0, 0] : List UInt8))) else (some false)) else (some false)))) = some r := h
  clear h
  replace H := Option.bind_eq_some_iff.mp H
  obtain ⟨⟨t147, t148⟩, A10, H⟩ := H
  replace H : ((carousellaw01_Awake.f).bind fun t149 => (if t149 = true then (if t148 = 0 then (some (t147.toList == ([225, 40, 0, 0, 0] : List UInt8))) else (some false)) else (some false))) = some r := H
  have A1 := Aside0.mk A10
  clear A10
  replace H := Option.bind_eq_some_iff.mp H
  obtain ⟨t149, A20, H⟩ := H
  replace H : (if t149 = true then (if t148 = 0 then (some (t147.toList == ([225, 40, 0, 0, 0] : List UInt8))) else (some false)) else (some false)) = some r := H
  have A2 := Aside0.mk A20
  clear A20
  by_cases c3 : t149 = true
  · subst c3
    have H1 : (if t148 = 0 then (some (t147.toList == ([225, 40, 0, 0, 0] : List UInt8))) else (some false)) = some r := by rw [if_pos rfl] at H; exact H
    clear H
    have H := H1
    clear H1
    by_cases c4 : t148 = 0
    · rw [if_pos c4] at H
      have c4b0 : (t148 == 0) = true := beq_iff_eq.mpr c4
      have c4b1 : (t148 != 0) = false := bne_eq_false_iff_eq.mpr c4
      clear c4
      obtain rfl := Option.some.inj H
      go_enter Try.func54, Try.ntmps54
      go_wp2_with (first | ((with_reducible refine gate_callee (f := 56) rfl ?_); refine goesL_ (some 5) rfl rfl Try.func56 (by kernel_rfl) rfl #[.agg #[.int .u8 7, .int .u8 1, .int .u8 40, .int .u8 0, .int .u8 0], .string (⟨#[]⟩ : ByteArray)] rfl (by (try simp only [List.map_toArray, List.map_cons, List.map_nil]); first | done | rfl | (simp only [List.length_drop, List.length_take]; rfl)) ?_; (with_reducible refine (oam_Close.calls 7 1 40 0 0 (⟨#[]⟩ : ByteArray) t147 t148 _ A1.out).mono ?_); rintro e w5 ⟨rfl, hb⟩; refine ⟨_, rfl, ?_⟩; have n0_ := Aside0.mk (below_step (by repeat (first | (with_reducible first | exact HB.out | apply below_alloc | apply pw_below_drewN | apply below_drew1) | exact HB.out)) hb); clear HB; have HB := n0_; clear n0_; (try clear hb); (try clear hb2); (try clear hk); (try clear hi)) | ((with_reducible refine gate_callee (f := 52) rfl ?_); refine goesL_ (some 8) rfl rfl Try.func52 (by kernel_rfl) rfl #[] rfl (by (try simp only [List.map_toArray, List.map_cons, List.map_nil]); first | done | rfl | (simp only [List.length_drop, List.length_take]; rfl)) ?_; (with_reducible refine (carousellaw01_Awake.calls  true _ A2.out).mono ?_); rintro e w6 ⟨rfl, hb⟩; refine ⟨_, rfl, ?_⟩; have n0_ := Aside0.mk (below_step (by repeat (first | (with_reducible first | exact HB.out | apply below_alloc | apply pw_below_drewN | apply below_drew1) | exact HB.out)) hb); clear HB; have HB := n0_; clear n0_; (try clear hb); (try clear hb2); (try clear hk); (try clear hi)))
      go_ret
      exact ⟨by first | rfl | (simp [errW_none, errW_some] <;> rfl) | (simp [*, errW_none, errW_some] <;> rfl), by repeat (first | (with_reducible first | exact HB.out | apply below_alloc | apply pw_below_drewN | apply below_drew1) | exact HB.out)⟩
    · rw [if_neg c4] at H
      have c4b0 : (t148 == 0) = false := beq_eq_false_iff_ne.mpr c4
      have c4b1 : (t148 != 0) = true := bne_iff_ne.mpr c4
      cases (Option.some.inj H).trans hT
  · replace c3 := Bool.eq_false_iff.mpr c3
    subst c3
    have H1 : (some false) = some r := by rw [if_neg (show ¬ (false = true) by decide)] at H; exact H
    clear H
    have H := H1
    clear H1
    cases (Option.some.inj H).trans hT

/-! ### carousellaw06_Awake: function 37 -/
def carousellaw06_Awake.f (k : Nat)  : Option (Bool) := (ccm_Name.f (⟨#[120]⟩ : ByteArray)).bind fun t150 => ((ccm_Close.f k true 4 0 1 t150 0).bind fun bt151 => ((carousellaw04_Awake.f).bind fun t153 => (if t153 = true then (if bt151.2 = 0 then (if (bt151.1.size : Int) = 75 then (if 2 < (bt151.1.size : Int) then (some ((bt bt151.1 2) == 132)) else (none)) else (some false)) else (some false)) else (some false))))
theorem carousellaw06_Awake.mono : ∀ k, LeO (carousellaw06_Awake.f k ) (carousellaw06_Awake.f (k + 1) ) := by
  intro  k
  unfold carousellaw06_Awake.f
  repeat' first
      | (with_reducible exact ccm_Close.mono _ _ _ _ _ _ _)
      | (with_reducible exact LeO.refl _)
      | (with_reducible exact LeO.none _)
      | (with_reducible refine LeO.ite ?_ ?_)
      | (with_reducible refine LeO.bind ?_ (fun _ => ?_))
      | exact ccm_Close.mono _ _ _ _ _ _ _
      | exact LeO.none _
      | refine LeO.ite ?_ ?_
      | refine LeO.bind ?_ (fun _ => ?_)
set_option maxHeartbeats 8000000 in
set_option maxRecDepth 100000 in
theorem carousellaw06_Awake.calls (k : Nat)  (r : Bool) (w : World) (h : carousellaw06_Awake.f k  = some r) :
    Calls Try.prog 37 #[] w fun e w' => e = .returned (.bool r) ∧ Below w.heap.size w w' := by
  have hT : r = true := by
    obtain ⟨K_, hK_⟩ := (Ev.of carousellaw06_Awake.mono (k := 60) (by decide +kernel) : Ev (fun k => carousellaw06_Awake.f k) true)
    have h1_ := at_rounds carousellaw06_Awake.mono (Nat.le_max_left k K_) h
    exact (Option.some.inj ((hK_ _ (Nat.le_max_right k K_)).symm.trans h1_)).symm
  have hu62 := Try.underlying62
  have HB := Aside0.mk (Below.refl w.heap.size w)
  have H : ((ccm_Name.f (⟨#[120]⟩ : ByteArray)).bind fun t150 => ((ccm_Close.f k true 4 0 1 t150 0).bind fun bt151 => ((carousellaw04_Awake.f).bind fun t153 => (if t153 = true then (if bt151.2 = 0 then (if (bt151.1.size : Int) = 75 then (if 2 < (bt151.1.size : Int) then (some ((bt bt151.1 2) == 132)) else (none)) else (some false)) else (some false)) else (some false))))) = some r := h
  clear h
  replace H := Option.bind_eq_some_iff.mp H
  obtain ⟨t150, A10, H⟩ := H
  replace H : ((ccm_Close.f k true 4 0 1 t150 0).bind fun bt151 => ((carousellaw04_Awake.f).bind fun t153 => (if t153 = true then (if bt151.2 = 0 then (if (bt151.1.size : Int) = 75 then (if 2 < (bt151.1.size : Int) then (some ((bt bt151.1 2) == 132)) else (none)) else (some false)) else (some false)) else (some false)))) = some r := H
  have A1 := Aside0.mk A10
  clear A10
  replace H := Option.bind_eq_some_iff.mp H
  obtain ⟨⟨t151, t152⟩, A20, H⟩ := H
  replace H : ((carousellaw04_Awake.f).bind fun t153 => (if t153 = true then (if t152 = 0 then (if (t151.size : Int) = 75 then (if 2 < (t151.size : Int) then (some ((bt t151 2) == 132)) else (none)) else (some false)) else (some false)) else (some false))) = some r := H
  have A2 := Aside0.mk A20
  clear A20
  replace H := Option.bind_eq_some_iff.mp H
  obtain ⟨t153, A30, H⟩ := H
  replace H : (if t153 = true then (if t152 = 0 then (if (t151.size : Int) = 75 then (if 2 < (t151.size : Int) then (some ((bt t151 2) == 132)) else (none)) else (some false)) else (some false)) else (some false)) = some r := H
  have A3 := Aside0.mk A30
  clear A30
  by_cases c4 : t153 = true
  · subst c4
    have H1 : (if t152 = 0 then (if (t151.size : Int) = 75 then (if 2 < (t151.size : Int) then (some ((bt t151 2) == 132)) else (none)) else (some false)) else (some false)) = some r := by rw [if_pos rfl] at H; exact H
    clear H
    have H := H1
    clear H1
    by_cases c5 : t152 = 0
    · rw [if_pos c5] at H
      have c5b0 : (t152 == 0) = true := beq_iff_eq.mpr c5
      have c5b1 : (t152 != 0) = false := bne_eq_false_iff_eq.mpr c5
      clear c5
      by_cases c6 : (t151.size : Int) = 75
      · rw [if_pos c6] at H
        have c6b0 : ((t151.size : Int) == 75) = true := beq_iff_eq.mpr c6
        have c6b1 : ((t151.size : Int) != 75) = false := bne_eq_false_iff_eq.mpr c6
        clear c6
        by_cases c7 : 2 < (t151.size : Int)
        · rw [if_pos c7] at H
          have c7b0 : decide (2 < (t151.size : Int)) = true := decide_eq_true c7
          have c7b1 : decide (2 < t151.size) = true := decide_eq_true (by omega)
          clear c7
          obtain rfl := Option.some.inj H
          go_enter Try.func37, Try.ntmps37
          go_wp2_with (first | ((with_reducible refine gate_callee (f := 28) rfl ?_); refine goesL_ (some 4) rfl rfl Try.func28 (by kernel_rfl) rfl #[.string (⟨#[120]⟩ : ByteArray)] rfl (by (try simp only [List.map_toArray, List.map_cons, List.map_nil]); first | done | rfl | (simp only [List.length_drop, List.length_take]; rfl)) ?_; (with_reducible refine (ccm_Name.calls (⟨#[120]⟩ : ByteArray) t150 _ A1.out).mono ?_); rintro e w9 ⟨rfl, hb⟩; refine ⟨_, rfl, ?_⟩; have n0_ := Aside0.mk (below_step (by repeat (first | (with_reducible first | exact HB.out | apply below_alloc | apply pw_below_drewN | apply below_drew1) | exact HB.out)) hb); clear HB; have HB := n0_; clear n0_; (try clear hb); (try clear hb2); (try clear hk); (try clear hi)) | ((with_reducible refine gate_callee (f := 38) rfl ?_); refine goesL_ (some 6) rfl rfl Try.func38 (by kernel_rfl) rfl #[.agg #[.bool true, .int .u8 4, .int .u32 0, .int .u16 1, .string t150], .int .u8 0] rfl (by (try simp only [List.map_toArray, List.map_cons, List.map_nil]); first | done | rfl | (simp only [List.length_drop, List.length_take]; rfl)) ?_; (with_reducible refine (ccm_Close.calls k true 4 0 1 t150 0 t151 t152 _ A2.out).mono ?_); rintro e w10 ⟨rfl, hb⟩; refine ⟨_, rfl, ?_⟩; have n0_ := Aside0.mk (below_step (by repeat (first | (with_reducible first | exact HB.out | apply below_alloc | apply pw_below_drewN | apply below_drew1) | exact HB.out)) hb); clear HB; have HB := n0_; clear n0_; (try clear hb); (try clear hb2); (try clear hk); (try clear hi)) | ((with_reducible refine gate_callee (f := 54) rfl ?_); refine goesL_ (some 9) rfl rfl Try.func54 (by kernel_rfl) rfl #[] rfl (by (try simp only [List.map_toArray, List.map_cons, List.map_nil]); first | done | rfl | (simp only [List.length_drop, List.length_take]; rfl)) ?_; (with_reducible refine (carousellaw04_Awake.calls  true _ A3.out).mono ?_); rintro e w11 ⟨rfl, hb⟩; refine ⟨_, rfl, ?_⟩; have n0_ := Aside0.mk (below_step (by repeat (first | (with_reducible first | exact HB.out | apply below_alloc | apply pw_below_drewN | apply below_drew1) | exact HB.out)) hb); clear HB; have HB := n0_; clear n0_; (try clear hb); (try clear hb2); (try clear hk); (try clear hi); have p8 : 0 ≤ (2 : Int) := (by omega); have q8 : 2 < t151.size := (by have : (2 : Int) < (t151.size : Int) := of_decide_eq_true (by first | (with_reducible assumption) | assumption); omega); have hx8 : ∀ h : 2 < t151.size, ((t151[2]'h).toNat : Int) = bt t151 2 := bt_at t151 2; clear p8; have qi8 : (2 < (t151.size : Int)) = True := eq_true (of_decide_eq_true (by first | (with_reducible assumption) | assumption)); replace q8 := eq_true q8))
          go_ret
          exact ⟨by first | rfl | (simp [errW_none, errW_some] <;> rfl) | (simp [*, errW_none, errW_some] <;> rfl), by repeat (first | (with_reducible first | exact HB.out | apply below_alloc | apply pw_below_drewN | apply below_drew1) | exact HB.out)⟩
        · rw [if_neg c7] at H
          exact absurd H (by simp)
      · rw [if_neg c6] at H
        have c6b0 : ((t151.size : Int) == 75) = false := beq_eq_false_iff_ne.mpr c6
        have c6b1 : ((t151.size : Int) != 75) = true := bne_iff_ne.mpr c6
        cases (Option.some.inj H).trans hT
    · rw [if_neg c5] at H
      have c5b0 : (t152 == 0) = false := beq_eq_false_iff_ne.mpr c5
      have c5b1 : (t152 != 0) = true := bne_iff_ne.mpr c5
      cases (Option.some.inj H).trans hT
  · replace c4 := Bool.eq_false_iff.mpr c4
    subst c4
    have H1 : (some false) = some r := by rw [if_neg (show ¬ (false = true) by decide)] at H; exact H
    clear H
    have H := H1
    clear H1
    cases (Option.some.inj H).trans hT

end Go.Proofs.Ytapicoienpbdfaa.PWatchSends
