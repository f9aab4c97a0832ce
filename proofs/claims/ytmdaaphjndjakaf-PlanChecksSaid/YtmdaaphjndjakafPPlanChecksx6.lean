-- Written by a program of this work, after the translation.
import Derived.Test.YtmdaaphjndjakafPPlanChecksx0
import Derived.Test.YtmdaaphjndjakafPPlanChecksx3
import Derived.Test.YtmdaaphjndjakafPPlanChecksx4
import Derived.Test.YtmdaaphjndjakafPPlanChecksx5
namespace Go.Proofs.Ytmdaaphjndjakaf.PPlanChecks
open Go.RowKit Go.Proofs.YtmdaaphjndjakafW.PrintWords Go.Proofs.YtmdaaphjndjakafW.PrintLast Go.Proofs.YtmdaaphjndjakafW.PrintMore
attribute [local go_sem] max2_int min2_int max_two min_two max_three min_three max_four min_four   -- for this text's walks alone
set_option linter.unusedVariables false
set_option linter.unusedSimpArgs false

/-! ### carousellaw16_Of: function 33 -/
def carousellaw16_Of.f (a0_0 : Int) (a0_1 : Int) (a0_2 : Int) (a0_3 : Int) (a0_4 : Int) (a0_5 : Int) (a0_6 : Int) (a0_7 : Int) (a0_8 : Int) (a0_9 : Int) (a0_10 : Int) (a0_11 : Int) (a0_12 : Int) (a0_13 : Int) (a0_14 : Int) (a0_15 : Bool) : Option (Int × Int × Int × Int × Int × Int × Int × Int × Int × Int × Int × Int × Int × Int × Int × Bool) := some (a0_0, a0_1, a0_2, a0_3, a0_4, a0_5, a0_6, a0_7, a0_8, a0_9, a0_10, a0_11, a0_12, a0_13, a0_14, a0_15)
set_option maxHeartbeats 8000000 in
set_option maxRecDepth 100000 in
theorem carousellaw16_Of.calls (a0_0 : Int) (a0_1 : Int) (a0_2 : Int) (a0_3 : Int) (a0_4 : Int) (a0_5 : Int) (a0_6 : Int) (a0_7 : Int) (a0_8 : Int) (a0_9 : Int) (a0_10 : Int) (a0_11 : Int) (a0_12 : Int) (a0_13 : Int) (a0_14 : Int) (a0_15 : Bool) (r1 : Int) (r2 : Int) (r3 : Int) (r4 : Int) (r5 : Int) (r6 : Int) (r7 : Int) (r8 : Int) (r9 : Int) (r10 : Int) (r11 : Int) (r12 : Int) (r13 : Int) (r14 : Int) (r15 : Int) (r16 : Bool) (w : World) (h : carousellaw16_Of.f a0_0 a0_1 a0_2 a0_3 a0_4 a0_5 a0_6 a0_7 a0_8 a0_9 a0_10 a0_11 a0_12 a0_13 a0_14 a0_15 = some (r1, r2, r3, r4, r5, r6, r7, r8, r9, r10, r11, r12, r13, r14, r15, r16)) :
    Calls Try.prog 33 #[.agg #[.int .i64 a0_0, .int .i64 a0_1, .int .u8 a0_2, .int .u16 a0_3, .int .u16 a0_4, .int .i64 a0_5, .int .i64 a0_6, .int .i64 a0_7, .int .i64 a0_8, .int .i64 a0_9, .int .i64 a0_10, .int .i64 a0_11, .int .i64 a0_12, .int .i64 a0_13, .int .i64 a0_14, .bool a0_15]] w fun e w' => e = .returned (.agg #[.int .i64 r1, .int .i64 r2, .int .u8 r3, .int .u16 r4, .int .u16 r5, .int .i64 r6, .int .i64 r7, .int .i64 r8, .int .i64 r9, .int .i64 r10, .int .i64 r11, .int .i64 r12, .int .i64 r13, .int .i64 r14, .int .i64 r15, .bool r16]) ∧ Below w.heap.size w w' := by
  have hu63 := Try.underlying63
  have hu66 := Try.underlying66
  have HB := Aside0.mk (Below.refl w.heap.size w)
  have H : (some (a0_0, a0_1, a0_2, a0_3, a0_4, a0_5, a0_6, a0_7, a0_8, a0_9, a0_10, a0_11, a0_12, a0_13, a0_14, a0_15)) = some (r1, r2, r3, r4, r5, r6, r7, r8, r9, r10, r11, r12, r13, r14, r15, r16) := h
  clear h
  simp only [Option.some.injEq, Prod.mk.injEq] at H
  obtain ⟨rfl, rfl, rfl, rfl, rfl, rfl, rfl, rfl, rfl, rfl, rfl, rfl, rfl, rfl, rfl, rfl⟩ := H
  go_enter Try.func33, Try.ntmps33
  go_wp2_with (first | ((with_reducible refine gate_dst (N := 1) rfl ?_); refine box_event ?hg (N := 1) ?hd (cs := #[.int .i64 a0_0, .int .i64 a0_1, .int .u8 a0_2, .int .u16 a0_3, .int .u16 a0_4, .int .i64 a0_5, .int .i64 a0_6, .int .i64 a0_7, .int .i64 a0_8, .int .i64 a0_9, .int .i64 a0_10, .int .i64 a0_11, .int .i64 a0_12, .int .i64 a0_13, .int .i64 a0_14, .bool a0_15]) (t := 63) ?hr ?_; (case hd => rfl); (case hg => rfl); (case hr => first | (go_simp; done) | (go_simp; rfl)); intro gb188 hg w2 hbox hb; have n0_ := Aside0.mk (below_step (by repeat (first | (with_reducible first | exact HB.out | apply below_alloc | apply pw_below_drewN | apply below_drew1) | exact HB.out)) hb); have n1_ := Aside0.mk (hbox); have n2_ := Aside0.mk ((by rw [hg]; exact (below_size (by repeat (first | (with_reducible first | exact HB.out | apply below_alloc | apply pw_below_drewN | apply below_drew1) | exact HB.out))) : w.heap.size ≤ gb188)); have n3_ := Aside0.mk ((by rw [hg]; exact (below_size (by repeat (first | (with_reducible first | exact HB.out | apply below_alloc | apply pw_below_drewN | apply below_drew1) | exact HB.out))) : w.heap.size ≤ gb188)); clear HB; have HB := n0_; have BK188 := n1_; have GW188 := n2_; have GE188 := n3_; clear n0_ n1_ n2_ n3_; clear hb hbox hg) | ((with_reducible refine gate_dst (N := 2) rfl ?_); refine box_event ?hg (N := 2) ?hd (cs := #[.int .i64 0, .int .i64 0, .int .u8 0, .int .u16 0, .int .u16 0, .int .i64 0, .int .i64 0, .int .i64 0, .int .i64 0, .int .i64 0, .int .i64 0, .int .i64 0, .int .i64 0, .int .i64 0, .int .i64 0, .bool false]) (t := 66) ?hr ?_; (case hd => rfl); (case hg => rfl); (case hr => first | (go_simp; done) | (go_simp; rfl)); intro gb189 hg w3 hbox hb; have n0_ := Aside0.mk (blk_below (g := gb188) (o := .cells #[.int .i64 a0_0, .int .i64 a0_1, .int .u8 a0_2, .int .u16 a0_3, .int .u16 a0_4, .int .i64 a0_5, .int .i64 a0_6, .int .i64 a0_7, .int .i64 a0_8, .int .i64 a0_9, .int .i64 a0_10, .int .i64 a0_11, .int .i64 a0_12, .int .i64 a0_13, .int .i64 a0_14, .bool a0_15] 63 (0, 0)) (by (with_reducible repeat (first | refine blk_drewN ?_ _ | refine blk_drew ?_ | refine blk_alloc ?_ _)); exact BK188.out) hb); have n1_ := Aside0.mk (below_step (by repeat (first | (with_reducible first | exact HB.out | apply below_alloc | apply pw_below_drewN | apply below_drew1 | refine below_set ?_ GE188.out) | exact HB.out)) hb); have n2_ := Aside0.mk (hbox); have n3_ := Aside0.mk ((by rw [hg]; exact (below_size (by repeat (first | (with_reducible first | exact HB.out | apply below_alloc | apply pw_below_drewN | apply below_drew1 | refine below_set ?_ GE188.out) | exact HB.out))) : w.heap.size ≤ gb189)); have n4_ := Aside0.mk ((by rw [hg]; exact (below_size (by repeat (first | (with_reducible first | exact HB.out | apply below_alloc | apply pw_below_drewN | apply below_drew1 | refine below_set ?_ GE188.out) | exact HB.out))) : w.heap.size ≤ gb189)); have n5_ := Aside0.mk ((by rw [hg]; exact Nat.ne_of_lt (blk_lt (g := gb188) (o := .cells #[.int .i64 a0_0, .int .i64 a0_1, .int .u8 a0_2, .int .u16 a0_3, .int .u16 a0_4, .int .i64 a0_5, .int .i64 a0_6, .int .i64 a0_7, .int .i64 a0_8, .int .i64 a0_9, .int .i64 a0_10, .int .i64 a0_11, .int .i64 a0_12, .int .i64 a0_13, .int .i64 a0_14, .bool a0_15] 63 (0, 0)) (by (with_reducible repeat (first | refine blk_drewN ?_ _ | refine blk_drew ?_ | refine blk_alloc ?_ _)); exact BK188.out)) : gb188 ≠ gb189)); have n6_ := Aside0.mk ((by rw [hg]; exact Nat.ne_of_gt (blk_lt (g := gb188) (o := .cells #[.int .i64 a0_0, .int .i64 a0_1, .int .u8 a0_2, .int .u16 a0_3, .int .u16 a0_4, .int .i64 a0_5, .int .i64 a0_6, .int .i64 a0_7, .int .i64 a0_8, .int .i64 a0_9, .int .i64 a0_10, .int .i64 a0_11, .int .i64 a0_12, .int .i64 a0_13, .int .i64 a0_14, .bool a0_15] 63 (0, 0)) (by (with_reducible repeat (first | refine blk_drewN ?_ _ | refine blk_drew ?_ | refine blk_alloc ?_ _)); exact BK188.out)) : gb189 ≠ gb188)); clear BK188; clear HB; have BK188 := n0_; have HB := n1_; have BK189 := n2_; have GW189 := n3_; have GE189 := n4_; have NB188_189 := n5_; have NB189_188 := n6_; clear n0_ n1_ n2_ n3_ n4_ n5_ n6_; clear hb hbox hg; have hnb4 := NB188_189.out; have hnc4 := NB189_188.out; have hcz5_0 : w3.cell? ⟨gb188, 0, none⟩ = some (.int .i64 a0_0) := (blk_cell BK188.out 0).trans rfl; have hcz5_1 : w3.cell? ⟨gb188, 1, none⟩ = some (.int .i64 a0_1) := (blk_cell BK188.out 1).trans rfl; have hcz5_2 : w3.cell? ⟨gb188, 2, none⟩ = some (.int .u8 a0_2) := (blk_cell BK188.out 2).trans rfl; have hcz5_3 : w3.cell? ⟨gb188, 3, none⟩ = some (.int .u16 a0_3) := (blk_cell BK188.out 3).trans rfl; have hcz5_4 : w3.cell? ⟨gb188, 4, none⟩ = some (.int .u16 a0_4) := (blk_cell BK188.out 4).trans rfl; have hcz5_5 : w3.cell? ⟨gb188, 5, none⟩ = some (.int .i64 a0_5) := (blk_cell BK188.out 5).trans rfl; have hcz5_6 : w3.cell? ⟨gb188, 6, none⟩ = some (.int .i64 a0_6) := (blk_cell BK188.out 6).trans rfl; have hcz5_7 : w3.cell? ⟨gb188, 7, none⟩ = some (.int .i64 a0_7) := (blk_cell BK188.out 7).trans rfl; have hcz5_8 : w3.cell? ⟨gb188, 8, none⟩ = some (.int .i64 a0_8) := (blk_cell BK188.out 8).trans rfl; have hcz5_9 : w3.cell? ⟨gb188, 9, none⟩ = some (.int .i64 a0_9) := (blk_cell BK188.out 9).trans rfl; have hcz5_10 : w3.cell? ⟨gb188, 10, none⟩ = some (.int .i64 a0_10) := (blk_cell BK188.out 10).trans rfl; have hcz5_11 : w3.cell? ⟨gb188, 11, none⟩ = some (.int .i64 a0_11) := (blk_cell BK188.out 11).trans rfl; have hcz5_12 : w3.cell? ⟨gb188, 12, none⟩ = some (.int .i64 a0_12) := (blk_cell BK188.out 12).trans rfl; have hcz5_13 : w3.cell? ⟨gb188, 13, none⟩ = some (.int .i64 a0_13) := (blk_cell BK188.out 13).trans rfl; have hcz5_14 : w3.cell? ⟨gb188, 14, none⟩ = some (.int .i64 a0_14) := (blk_cell BK188.out 14).trans rfl; have hcz5_15 : w3.cell? ⟨gb188, 15, none⟩ = some (.bool a0_15) := (blk_cell BK188.out 15).trans rfl; have hfz5_0 := blk_frozen BK188.out 0; have hfz5_1 := blk_frozen BK188.out 1; have hfz5_2 := blk_frozen BK188.out 2; have hfz5_3 := blk_frozen BK188.out 3; have hfz5_4 := blk_frozen BK188.out 4; have hfz5_5 := blk_frozen BK188.out 5; have hfz5_6 := blk_frozen BK188.out 6; have hfz5_7 := blk_frozen BK188.out 7; have hfz5_8 := blk_frozen BK188.out 8; have hfz5_9 := blk_frozen BK188.out 9; have hfz5_10 := blk_frozen BK188.out 10; have hfz5_11 := blk_frozen BK188.out 11; have hfz5_12 := blk_frozen BK188.out 12; have hfz5_13 := blk_frozen BK188.out 13; have hfz5_14 := blk_frozen BK188.out 14; have hfz5_15 := blk_frozen BK188.out 15; have hcz6_0 : w3.cell? ⟨gb189, 0, none⟩ = some (.int .i64 0) := (blk_cell BK189.out 0).trans rfl; have hcz6_1 : w3.cell? ⟨gb189, 1, none⟩ = some (.int .i64 0) := (blk_cell BK189.out 1).trans rfl; have hcz6_2 : w3.cell? ⟨gb189, 2, none⟩ = some (.int .u8 0) := (blk_cell BK189.out 2).trans rfl; have hcz6_3 : w3.cell? ⟨gb189, 3, none⟩ = some (.int .u16 0) := (blk_cell BK189.out 3).trans rfl; have hcz6_4 : w3.cell? ⟨gb189, 4, none⟩ = some (.int .u16 0) := (blk_cell BK189.out 4).trans rfl; have hcz6_5 : w3.cell? ⟨gb189, 5, none⟩ = some (.int .i64 0) := (blk_cell BK189.out 5).trans rfl; have hcz6_6 : w3.cell? ⟨gb189, 6, none⟩ = some (.int .i64 0) := (blk_cell BK189.out 6).trans rfl; have hcz6_7 : w3.cell? ⟨gb189, 7, none⟩ = some (.int .i64 0) := (blk_cell BK189.out 7).trans rfl; have hcz6_8 : w3.cell? ⟨gb189, 8, none⟩ = some (.int .i64 0) := (blk_cell BK189.out 8).trans rfl; have hcz6_9 : w3.cell? ⟨gb189, 9, none⟩ = some (.int .i64 0) := (blk_cell BK189.out 9).trans rfl; have hcz6_10 : w3.cell? ⟨gb189, 10, none⟩ = some (.int .i64 0) := (blk_cell BK189.out 10).trans rfl; have hcz6_11 : w3.cell? ⟨gb189, 11, none⟩ = some (.int .i64 0) := (blk_cell BK189.out 11).trans rfl; have hcz6_12 : w3.cell? ⟨gb189, 12, none⟩ = some (.int .i64 0) := (blk_cell BK189.out 12).trans rfl; have hcz6_13 : w3.cell? ⟨gb189, 13, none⟩ = some (.int .i64 0) := (blk_cell BK189.out 13).trans rfl; have hcz6_14 : w3.cell? ⟨gb189, 14, none⟩ = some (.int .i64 0) := (blk_cell BK189.out 14).trans rfl; have hcz6_15 : w3.cell? ⟨gb189, 15, none⟩ = some (.bool false) := (blk_cell BK189.out 15).trans rfl; have hfz6_0 := blk_frozen BK189.out 0; have hfz6_1 := blk_frozen BK189.out 1; have hfz6_2 := blk_frozen BK189.out 2; have hfz6_3 := blk_frozen BK189.out 3; have hfz6_4 := blk_frozen BK189.out 4; have hfz6_5 := blk_frozen BK189.out 5; have hfz6_6 := blk_frozen BK189.out 6; have hfz6_7 := blk_frozen BK189.out 7; have hfz6_8 := blk_frozen BK189.out 8; have hfz6_9 := blk_frozen BK189.out 9; have hfz6_10 := blk_frozen BK189.out 10; have hfz6_11 := blk_frozen BK189.out 11; have hfz6_12 := blk_frozen BK189.out 12; have hfz6_13 := blk_frozen BK189.out 13; have hfz6_14 := blk_frozen BK189.out 14; have hfz6_15 := blk_frozen BK189.out 15))
  refine bodyPost_ret (results_cell_row rfl _ _ gb189 66 #[.int .i64 a0_0, .int .i64 a0_1, .int .u8 a0_2, .int .u16 a0_3, .int .u16 a0_4, .int .i64 a0_5, .int .i64 a0_6, .int .i64 a0_7, .int .i64 a0_8, .int .i64 a0_9, .int .i64 a0_10, .int .i64 a0_11, .int .i64 a0_12, .int .i64 a0_13, .int .i64 a0_14, .bool a0_15] (0, 0) _ rfl (by (with_reducible repeat (first | refine blk_drewN ?_ _ | refine blk_drew ?_ | refine blk_alloc ?_ _)); refine blk_put (cs := #[.int .i64 a0_0, .int .i64 a0_1, .int .u8 a0_2, .int .u16 a0_3, .int .u16 a0_4, .int .i64 a0_5, .int .i64 a0_6, .int .i64 a0_7, .int .i64 a0_8, .int .i64 a0_9, .int .i64 a0_10, .int .i64 a0_11, .int .i64 a0_12, .int .i64 a0_13, .int .i64 a0_14, .bool false]) ?_ 15 _ rfl; (with_reducible repeat (first | refine blk_drewN ?_ _ | refine blk_drew ?_ | refine blk_alloc ?_ _)); refine blk_put (cs := #[.int .i64 a0_0, .int .i64 a0_1, .int .u8 a0_2, .int .u16 a0_3, .int .u16 a0_4, .int .i64 a0_5, .int .i64 a0_6, .int .i64 a0_7, .int .i64 a0_8, .int .i64 a0_9, .int .i64 a0_10, .int .i64 a0_11, .int .i64 a0_12, .int .i64 a0_13, .int .i64 0, .bool false]) ?_ 14 _ rfl; (with_reducible repeat (first | refine blk_drewN ?_ _ | refine blk_drew ?_ | refine blk_alloc ?_ _)); refine blk_put (cs := #[.int .i64 a0_0, .int .i64 a0_1, .int .u8 a0_2, .int .u16 a0_3, .int .u16 a0_4, .int .i64 a0_5, .int .i64 a0_6, .int .i64 a0_7, .int .i64 a0_8, .int .i64 a0_9, .int .i64 a0_10, .int .i64 a0_11, .int .i64 a0_12, .int .i64 0, .int .i64 0, .bool false]) ?_ 13 _ rfl; (with_reducible repeat (first | refine blk_drewN ?_ _ | refine blk_drew ?_ | refine blk_alloc ?_ _)); refine blk_put (cs := #[.int .i64 a0_0, .int .i64 a0_1, .int .u8 a0_2, .int .u16 a0_3, .int .u16 a0_4, .int .i64 a0_5, .int .i64 a0_6, .int .i64 a0_7, .int .i64 a0_8, .int .i64 a0_9, .int .i64 a0_10, .int .i64 a0_11, .int .i64 0, .int .i64 0, .int .i64 0, .bool false]) ?_ 12 _ rfl; (with_reducible repeat (first | refine blk_drewN ?_ _ | refine blk_drew ?_ | refine blk_alloc ?_ _)); refine blk_put (cs := #[.int .i64 a0_0, .int .i64 a0_1, .int .u8 a0_2, .int .u16 a0_3, .int .u16 a0_4, .int .i64 a0_5, .int .i64 a0_6, .int .i64 a0_7, .int .i64 a0_8, .int .i64 a0_9, .int .i64 a0_10, .int .i64 0, .int .i64 0, .int .i64 0, .int .i64 0, .bool false]) ?_ 11 _ rfl; (with_reducible repeat (first | refine blk_drewN ?_ _ | refine blk_drew ?_ | refine blk_alloc ?_ _)); refine blk_put (cs := #[.int .i64 a0_0, .int .i64 a0_1, .int .u8 a0_2, .int .u16 a0_3, .int .u16 a0_4, .int .i64 a0_5, .int .i64 a0_6, .int .i64 a0_7, .int .i64 a0_8, .int .i64 a0_9, .int .i64 0, .int .i64 0, .int .i64 0, .int .i64 0, .int .i64 0, .bool false]) ?_ 10 _ rfl; (with_reducible repeat (first | refine blk_drewN ?_ _ | refine blk_drew ?_ | refine blk_alloc ?_ _)); refine blk_put (cs := #[.int .i64 a0_0, .int .i64 a0_1, .int .u8 a0_2, .int .u16 a0_3, .int .u16 a0_4, .int .i64 a0_5, .int .i64 a0_6, .int .i64 a0_7, .int .i64 a0_8, .int .i64 0, .int .i64 0, .int .i64 0, .int .i64 0, .int .i64 0, .int .i64 0, .bool false]) ?_ 9 _ rfl; (with_reducible repeat (first | refine blk_drewN ?_ _ | refine blk_drew ?_ | refine blk_alloc ?_ _)); refine blk_put (cs := #[.int .i64 a0_0, .int .i64 a0_1, .int .u8 a0_2, .int .u16 a0_3, .int .u16 a0_4, .int .i64 a0_5, .int .i64 a0_6, .int .i64 a0_7, .int .i64 0, .int .i64 0, .int .i64 0, .int .i64 0, .int .i64 0, .int .i64 0, .int .i64 0, .bool false]) ?_ 8 _ rfl; (with_reducible repeat (first | refine blk_drewN ?_ _ | refine blk_drew ?_ | refine blk_alloc ?_ _)); refine blk_put (cs := #[.int .i64 a0_0, .int .i64 a0_1, .int .u8 a0_2, .int .u16 a0_3, .int .u16 a0_4, .int .i64 a0_5, .int .i64 a0_6, .int .i64 0, .int .i64 0, .int .i64 0, .int .i64 0, .int .i64 0, .int .i64 0, .int .i64 0, .int .i64 0, .bool false]) ?_ 7 _ rfl; (with_reducible repeat (first | refine blk_drewN ?_ _ | refine blk_drew ?_ | refine blk_alloc ?_ _)); refine blk_put (cs := #[.int .i64 a0_0, .int .i64 a0_1, .int .u8 a0_2, .int .u16 a0_3, .int .u16 a0_4, .int .i64 a0_5, .int .i64 0, .int .i64 0, .int .i64 0, .int .i64 0, .int .i64 0, .int .i64 0, .int .i64 0, .int .i64 0, .int .i64 0, .bool false]) ?_ 6 _ rfl; (with_reducible repeat (first | refine blk_drewN ?_ _ | refine blk_drew ?_ | refine blk_alloc ?_ _)); refine blk_put (cs := #[.int .i64 a0_0, .int .i64 a0_1, .int .u8 a0_2, .int .u16 a0_3, .int .u16 a0_4, .int .i64 0, .int .i64 0, .int .i64 0, .int .i64 0, .int .i64 0, .int .i64 0, .int .i64 0, .int .i64 0, .int .i64 0, .int .i64 0, .bool false]) ?_ 5 _ rfl; (with_reducible repeat (first | refine blk_drewN ?_ _ | refine blk_drew ?_ | refine blk_alloc ?_ _)); refine blk_put (cs := #[.int .i64 a0_0, .int .i64 a0_1, .int .u8 a0_2, .int .u16 a0_3, .int .u16 0, .int .i64 0, .int .i64 0, .int .i64 0, .int .i64 0, .int .i64 0, .int .i64 0, .int .i64 0, .int .i64 0, .int .i64 0, .int .i64 0, .bool false]) ?_ 4 _ rfl; (with_reducible repeat (first | refine blk_drewN ?_ _ | refine blk_drew ?_ | refine blk_alloc ?_ _)); refine blk_put (cs := #[.int .i64 a0_0, .int .i64 a0_1, .int .u8 a0_2, .int .u16 0, .int .u16 0, .int .i64 0, .int .i64 0, .int .i64 0, .int .i64 0, .int .i64 0, .int .i64 0, .int .i64 0, .int .i64 0, .int .i64 0, .int .i64 0, .bool false]) ?_ 3 _ rfl; (with_reducible repeat (first | refine blk_drewN ?_ _ | refine blk_drew ?_ | refine blk_alloc ?_ _)); refine blk_put (cs := #[.int .i64 a0_0, .int .i64 a0_1, .int .u8 0, .int .u16 0, .int .u16 0, .int .i64 0, .int .i64 0, .int .i64 0, .int .i64 0, .int .i64 0, .int .i64 0, .int .i64 0, .int .i64 0, .int .i64 0, .int .i64 0, .bool false]) ?_ 2 _ rfl; (with_reducible repeat (first | refine blk_drewN ?_ _ | refine blk_drew ?_ | refine blk_alloc ?_ _)); refine blk_put (cs := #[.int .i64 a0_0, .int .i64 0, .int .u8 0, .int .u16 0, .int .u16 0, .int .i64 0, .int .i64 0, .int .i64 0, .int .i64 0, .int .i64 0, .int .i64 0, .int .i64 0, .int .i64 0, .int .i64 0, .int .i64 0, .bool false]) ?_ 1 _ rfl; (with_reducible repeat (first | refine blk_drewN ?_ _ | refine blk_drew ?_ | refine blk_alloc ?_ _)); refine blk_put (cs := #[.int .i64 0, .int .i64 0, .int .u8 0, .int .u16 0, .int .u16 0, .int .i64 0, .int .i64 0, .int .i64 0, .int .i64 0, .int .i64 0, .int .i64 0, .int .i64 0, .int .i64 0, .int .i64 0, .int .i64 0, .bool false]) ?_ 0 _ rfl; (with_reducible repeat (first | refine blk_drewN ?_ _ | refine blk_drew ?_ | refine blk_alloc ?_ _)); exact BK189.out) Try.underlying66 rfl (by kernel_rfl)) rfl ?_
  exact ⟨by first | rfl | (simp [errW_none, errW_some] <;> rfl) | (simp [*, errW_none, errW_some] <;> rfl), by repeat (first | (with_reducible first | exact HB.out | apply below_alloc | apply pw_below_drewN | apply below_drew1 | refine below_set ?_ GE188.out | refine below_set ?_ GE189.out) | exact HB.out)⟩

/-! ### carousellaw16_PlanChecks: function 8 -/
def carousellaw16_PlanChecks.f (k : Nat) (a0_0 : Int) (a0_1 : Int) (a0_2 : Int) (a0_3 : Int) (a0_4 : Int) (a0_5 : Int) (a0_6 : Int) (a0_7 : Int) (a0_8 : Int) (a0_9 : Int) (a0_10 : Int) (a0_11 : Int) (a0_12 : Int) (a0_13 : Int) (a0_14 : Int) (a0_15 : Bool) : Option (Bool) := (carousellaw16_Awake.f k).bind fun t191 => (if t191 = true then ((plan_Plan_Check.f k a0_0 a0_1 a0_2 a0_3 a0_4 a0_5 a0_6 a0_7 a0_8 a0_9 a0_10 a0_11 a0_12 a0_13 a0_14 a0_15).bind fun t192 => ((carousellaw16_Of.f a0_0 a0_1 a0_2 a0_3 a0_4 a0_5 a0_6 a0_7 a0_8 a0_9 a0_10 a0_11 a0_12 a0_13 a0_14 a0_15).bind fun bt193 => ((carouselref16_Check.f k bt193.1 bt193.2.1 bt193.2.2.1 bt193.2.2.2.1 bt193.2.2.2.2.1 bt193.2.2.2.2.2.1 bt193.2.2.2.2.2.2.1 bt193.2.2.2.2.2.2.2.1 bt193.2.2.2.2.2.2.2.2.1 bt193.2.2.2.2.2.2.2.2.2.1 bt193.2.2.2.2.2.2.2.2.2.2.1 bt193.2.2.2.2.2.2.2.2.2.2.2.1 bt193.2.2.2.2.2.2.2.2.2.2.2.2.1 bt193.2.2.2.2.2.2.2.2.2.2.2.2.2.1 bt193.2.2.2.2.2.2.2.2.2.2.2.2.2.2.1 bt193.2.2.2.2.2.2.2.2.2.2.2.2.2.2.2).bind fun t209 => (some (t192 == t209))))) else (some false))
theorem carousellaw16_PlanChecks.mono : ∀ a0 a1 a2 a3 a4 a5 a6 a7 a8 a9 a10 a11 a12 a13 a14 a15 k, LeO (carousellaw16_PlanChecks.f k a0 a1 a2 a3 a4 a5 a6 a7 a8 a9 a10 a11 a12 a13 a14 a15) (carousellaw16_PlanChecks.f (k + 1) a0 a1 a2 a3 a4 a5 a6 a7 a8 a9 a10 a11 a12 a13 a14 a15) := by
  intro a0 a1 a2 a3 a4 a5 a6 a7 a8 a9 a10 a11 a12 a13 a14 a15 k
  unfold carousellaw16_PlanChecks.f
  repeat' first
      | (with_reducible exact carousellaw16_Awake.mono _)
      | (with_reducible exact carouselref16_Check.mono _ _ _ _ _ _ _ _ _ _ _ _ _ _ _ _ _)
      | (with_reducible exact plan_Plan_Check.mono _ _ _ _ _ _ _ _ _ _ _ _ _ _ _ _ _)
      | (with_reducible exact LeO.refl _)
      | (with_reducible exact LeO.none _)
      | (with_reducible refine LeO.ite ?_ ?_)
      | (with_reducible refine LeO.bind ?_ (fun _ => ?_))
      | exact carousellaw16_Awake.mono _
      | exact carouselref16_Check.mono _ _ _ _ _ _ _ _ _ _ _ _ _ _ _ _ _
      | exact plan_Plan_Check.mono _ _ _ _ _ _ _ _ _ _ _ _ _ _ _ _ _
      | exact LeO.none _
      | refine LeO.ite ?_ ?_
      | refine LeO.bind ?_ (fun _ => ?_)
def carousellaw16_PlanChecks.T1 : Bool × List (List Nat × List Nat) := (true, [([], []), ([0, 0], [0]), ([1], [1]), ([2, 1, 1], [1, 2]), ([1], [1]), ([4, 3, 1], [1, 4]), ([5, 5, 1], [1, 5]), ([3, 6, 1], [1, 3, 6]), ([1, 7], [1, 7]), ([8, 6, 0, 1, 2, 3, 4, 5, 6, 7, 8], [8])])
def carousellaw16_PlanChecks.B1 : List Nat := [0, 1, 3, 7, 3, 31, 63, 127, 255, 511]
theorem carousellaw16_PlanChecks.tab1 : rtab .any (opsOf Try.f8 1) = carousellaw16_PlanChecks.T1 := by kernel_rfl
theorem carousellaw16_PlanChecks.bits1 : waitsOk carousellaw16_PlanChecks.T1.2 carousellaw16_PlanChecks.B1 = true := by kernel_rfl
set_option maxHeartbeats 8000000 in
set_option maxRecDepth 100000 in
theorem carousellaw16_PlanChecks.calls (k : Nat) (a0_0 : Int) (a0_1 : Int) (a0_2 : Int) (a0_3 : Int) (a0_4 : Int) (a0_5 : Int) (a0_6 : Int) (a0_7 : Int) (a0_8 : Int) (a0_9 : Int) (a0_10 : Int) (a0_11 : Int) (a0_12 : Int) (a0_13 : Int) (a0_14 : Int) (a0_15 : Bool) (r : Bool) (w : World) (h : carousellaw16_PlanChecks.f k a0_0 a0_1 a0_2 a0_3 a0_4 a0_5 a0_6 a0_7 a0_8 a0_9 a0_10 a0_11 a0_12 a0_13 a0_14 a0_15 = some r) (hT : r = true) :
    Calls Try.prog 8 #[.agg #[.int .i64 a0_0, .int .i64 a0_1, .int .u8 a0_2, .int .u16 a0_3, .int .u16 a0_4, .int .i64 a0_5, .int .i64 a0_6, .int .i64 a0_7, .int .i64 a0_8, .int .i64 a0_9, .int .i64 a0_10, .int .i64 a0_11, .int .i64 a0_12, .int .i64 a0_13, .int .i64 a0_14, .bool a0_15]] w fun e w' => e = .returned (.bool r) ∧ Below w.heap.size w w' := by
  have hu63 := Try.underlying63
  have HB := Aside0.mk (Below.refl w.heap.size w)
  have H : ((carousellaw16_Awake.f k).bind fun t191 => (if t191 = true then ((plan_Plan_Check.f k a0_0 a0_1 a0_2 a0_3 a0_4 a0_5 a0_6 a0_7 a0_8 a0_9 a0_10 a0_11 a0_12 a0_13 a0_14 a0_15).bind fun t192 => ((carousellaw16_Of.f a0_0 a0_1 a0_2 a0_3 a0_4 a0_5 a0_6 a0_7 a0_8 a0_9 a0_10 a0_11 a0_12 a0_13 a0_14 a0_15).bind fun bt193 => ((carouselref16_Check.f k bt193.1 bt193.2.1 bt193.2.2.1 bt193.2.2.2.1 bt193.2.2.2.2.1 bt193.2.2.2.2.2.1 bt193.2.2.2.2.2.2.1 bt193.2.2.2.2.2.2.2.1 bt193.2.2.2.2.2.2.2.2.1 bt193.2.2.2.2.2.2.2.2.2.1 bt193.2.2.2.2.2.2.2.2.2.2.1 bt193.2.2.2.2.2.2.2.2.2.2.2.1 bt193.2.2.2.2.2.2.2.2.2.2.2.2.1 bt193.2.2.2.2.2.2.2.2.2.2.2.2.2.1 bt193.2.2.2.2.2.2.2.2.2.2.2.2.2.2.1 bt193.2.2.2.2.2.2.2.2.2.2.2.2.2.2.2).bind fun t209 => (some (t192 == t209))))) else (some false))) = some r := h
  clear h
  replace H := Option.bind_eq_some_iff.mp H
  obtain ⟨t191, A20, H⟩ := H
  replace H : (if t191 = true then ((plan_Plan_Check.f k a0_0 a0_1 a0_2 a0_3 a0_4 a0_5 a0_6 a0_7 a0_8 a0_9 a0_10 a0_11 a0_12 a0_13 a0_14 a0_15).bind fun t192 => ((carousellaw16_Of.f a0_0 a0_1 a0_2 a0_3 a0_4 a0_5 a0_6 a0_7 a0_8 a0_9 a0_10 a0_11 a0_12 a0_13 a0_14 a0_15).bind fun bt193 => ((carouselref16_Check.f k bt193.1 bt193.2.1 bt193.2.2.1 bt193.2.2.2.1 bt193.2.2.2.2.1 bt193.2.2.2.2.2.1 bt193.2.2.2.2.2.2.1 bt193.2.2.2.2.2.2.2.1 bt193.2.2.2.2.2.2.2.2.1 bt193.2.2.2.2.2.2.2.2.2.1 bt193.2.2.2.2.2.2.2.2.2.2.1 bt193.2.2.2.2.2.2.2.2.2.2.2.1 bt193.2.2.2.2.2.2.2.2.2.2.2.2.1 bt193.2.2.2.2.2.2.2.2.2.2.2.2.2.1 bt193.2.2.2.2.2.2.2.2.2.2.2.2.2.2.1 bt193.2.2.2.2.2.2.2.2.2.2.2.2.2.2.2).bind fun t209 => (some (t192 == t209))))) else (some false)) = some r := H
  have A2 := Aside0.mk A20
  clear A20
  by_cases c3 : t191 = true
  · subst c3
    have H1 : ((plan_Plan_Check.f k a0_0 a0_1 a0_2 a0_3 a0_4 a0_5 a0_6 a0_7 a0_8 a0_9 a0_10 a0_11 a0_12 a0_13 a0_14 a0_15).bind fun t192 => ((carousellaw16_Of.f a0_0 a0_1 a0_2 a0_3 a0_4 a0_5 a0_6 a0_7 a0_8 a0_9 a0_10 a0_11 a0_12 a0_13 a0_14 a0_15).bind fun bt193 => ((carouselref16_Check.f k bt193.1 bt193.2.1 bt193.2.2.1 bt193.2.2.2.1 bt193.2.2.2.2.1 bt193.2.2.2.2.2.1 bt193.2.2.2.2.2.2.1 bt193.2.2.2.2.2.2.2.1 bt193.2.2.2.2.2.2.2.2.1 bt193.2.2.2.2.2.2.2.2.2.1 bt193.2.2.2.2.2.2.2.2.2.2.1 bt193.2.2.2.2.2.2.2.2.2.2.2.1 bt193.2.2.2.2.2.2.2.2.2.2.2.2.1 bt193.2.2.2.2.2.2.2.2.2.2.2.2.2.1 bt193.2.2.2.2.2.2.2.2.2.2.2.2.2.2.1 bt193.2.2.2.2.2.2.2.2.2.2.2.2.2.2.2).bind fun t209 => (some (t192 == t209))))) = some r := by rw [if_pos rfl] at H; exact H
    clear H
    have H := H1
    clear H1
    replace H := Option.bind_eq_some_iff.mp H
    obtain ⟨t192, A40, H⟩ := H
    replace H : ((carousellaw16_Of.f a0_0 a0_1 a0_2 a0_3 a0_4 a0_5 a0_6 a0_7 a0_8 a0_9 a0_10 a0_11 a0_12 a0_13 a0_14 a0_15).bind fun bt193 => ((carouselref16_Check.f k bt193.1 bt193.2.1 bt193.2.2.1 bt193.2.2.2.1 bt193.2.2.2.2.1 bt193.2.2.2.2.2.1 bt193.2.2.2.2.2.2.1 bt193.2.2.2.2.2.2.2.1 bt193.2.2.2.2.2.2.2.2.1 bt193.2.2.2.2.2.2.2.2.2.1 bt193.2.2.2.2.2.2.2.2.2.2.1 bt193.2.2.2.2.2.2.2.2.2.2.2.1 bt193.2.2.2.2.2.2.2.2.2.2.2.2.1 bt193.2.2.2.2.2.2.2.2.2.2.2.2.2.1 bt193.2.2.2.2.2.2.2.2.2.2.2.2.2.2.1 bt193.2.2.2.2.2.2.2.2.2.2.2.2.2.2.2).bind fun t209 => (some (t192 == t209)))) = some r := H
    have A4 := Aside0.mk A40
    clear A40
    replace H := Option.bind_eq_some_iff.mp H
    obtain ⟨⟨t193, t194, t195, t196, t197, t198, t199, t200, t201, t202, t203, t204, t205, t206, t207, t208⟩, A50, H⟩ := H
    replace H : ((carouselref16_Check.f k t193 t194 t195 t196 t197 t198 t199 t200 t201 t202 t203 t204 t205 t206 t207 t208).bind fun t209 => (some (t192 == t209))) = some r := H
    have A5 := Aside0.mk A50
    clear A50
    replace H := Option.bind_eq_some_iff.mp H
    obtain ⟨t209, A60, H⟩ := H
    replace H : (some (t192 == t209)) = some r := H
    have A6 := Aside0.mk A60
    clear A60
    obtain rfl := Option.some.inj H
    go_enter Try.func8, Try.ntmps8
    try go_wp2_with (first | ((with_reducible refine gate_dst (N := 1) rfl ?_); refine box_event ?hg (N := 1) ?hd (cs := #[.int .i64 a0_0, .int .i64 a0_1, .int .u8 a0_2, .int .u16 a0_3, .int .u16 a0_4, .int .i64 a0_5, .int .i64 a0_6, .int .i64 a0_7, .int .i64 a0_8, .int .i64 a0_9, .int .i64 a0_10, .int .i64 a0_11, .int .i64 a0_12, .int .i64 a0_13, .int .i64 a0_14, .bool a0_15]) (t := 63) ?hr ?_; (case hd => rfl); (case hg => rfl); (case hr => first | (go_simp; done) | (go_simp; rfl)); intro gb190 hg w7 hbox hb; have n0_ := Aside0.mk (below_step (by repeat (first | (with_reducible first | exact HB.out | apply below_alloc | apply pw_below_drewN | apply below_drew1) | exact HB.out)) hb); have n1_ := Aside0.mk (hbox); have n2_ := Aside0.mk ((by rw [hg]; exact (below_size (by repeat (first | (with_reducible first | exact HB.out | apply below_alloc | apply pw_below_drewN | apply below_drew1) | exact HB.out))) : w.heap.size ≤ gb190)); have n3_ := Aside0.mk ((by rw [hg]; exact (below_size (by repeat (first | (with_reducible first | exact HB.out | apply below_alloc | apply pw_below_drewN | apply below_drew1) | exact HB.out))) : w.heap.size ≤ gb190)); clear HB; have HB := n0_; have BK190 := n1_; have GW190 := n2_; have GE190 := n3_; clear n0_ n1_ n2_ n3_; clear hb hbox hg))
    have n0_ := Aside0.mk (blk_drew BK190.out)
    have n1_ := Aside0.mk (below_drew1 HB.out)
    clear BK190
    clear HB
    have BK190 := n0_
    have HB := n1_
    clear n0_ n1_
    refine start_ (n := 10) (S := fun w' => w'.cell? ⟨gb190, 0, none⟩ = some (.int .i64 a0_0) ∧ w'.cell? ⟨gb190, 1, none⟩ = some (.int .i64 a0_1) ∧ w'.cell? ⟨gb190, 2, none⟩ = some (.int .u8 a0_2) ∧ w'.cell? ⟨gb190, 3, none⟩ = some (.int .u16 a0_3) ∧ w'.cell? ⟨gb190, 4, none⟩ = some (.int .u16 a0_4) ∧ w'.cell? ⟨gb190, 5, none⟩ = some (.int .i64 a0_5) ∧ w'.cell? ⟨gb190, 6, none⟩ = some (.int .i64 a0_6) ∧ w'.cell? ⟨gb190, 7, none⟩ = some (.int .i64 a0_7) ∧ w'.cell? ⟨gb190, 8, none⟩ = some (.int .i64 a0_8) ∧ w'.cell? ⟨gb190, 9, none⟩ = some (.int .i64 a0_9) ∧ w'.cell? ⟨gb190, 10, none⟩ = some (.int .i64 a0_10) ∧ w'.cell? ⟨gb190, 11, none⟩ = some (.int .i64 a0_11) ∧ w'.cell? ⟨gb190, 12, none⟩ = some (.int .i64 a0_12) ∧ w'.cell? ⟨gb190, 13, none⟩ = some (.int .i64 a0_13) ∧ w'.cell? ⟨gb190, 14, none⟩ = some (.int .i64 a0_14) ∧ w'.cell? ⟨gb190, 15, none⟩ = some (.bool a0_15)) (ds := []) #[false, false, false, false, false, false, false, false, false, false] (by kernel_rfl) rfl rfl ⟨(blk_cell BK190.out 0).trans rfl, (blk_cell BK190.out 1).trans rfl, (blk_cell BK190.out 2).trans rfl, (blk_cell BK190.out 3).trans rfl, (blk_cell BK190.out 4).trans rfl, (blk_cell BK190.out 5).trans rfl, (blk_cell BK190.out 6).trans rfl, (blk_cell BK190.out 7).trans rfl, (blk_cell BK190.out 8).trans rfl, (blk_cell BK190.out 9).trans rfl, (blk_cell BK190.out 10).trans rfl, (blk_cell BK190.out 11).trans rfl, (blk_cell BK190.out 12).trans rfl, (blk_cell BK190.out 13).trans rfl, (blk_cell BK190.out 14).trans rfl, (blk_cell BK190.out 15).trans rfl⟩ (fun hHeld => ?_); refine with_tabW carousellaw16_PlanChecks.tab1 carousellaw16_PlanChecks.bits1 (fun HT_ HW_ => ?_)
    generalize w7.drew = w8 at BK190 HB hHeld ⊢
    refine one_ (i := 0) (N := some 3) #[true, false, false, false, false, false, false, false, false, false] rfl rfl (one_of HT_.out (by kernel_rfl)) (by decide) (fun K hK => ?_)
    refine goes_ Try.func30 (by kernel_rfl) rfl #[] (by rfl) rfl rfl (by (try simp only [List.map_toArray, List.map_cons, List.map_nil]); first | done | rfl | (simp only [List.length_drop, List.length_take]; rfl)) ?_
    with_reducible refine (carousellaw16_Awake.calls k  true _ A2.out).mono ?_
    rintro e w9 ⟨rfl, hb⟩
    refine ⟨_, rfl, ?_⟩
    have n0_ := Aside0.mk (blk_below (g := gb190) (o := .cells #[.int .i64 a0_0, .int .i64 a0_1, .int .u8 a0_2, .int .u16 a0_3, .int .u16 a0_4, .int .i64 a0_5, .int .i64 a0_6, .int .i64 a0_7, .int .i64 a0_8, .int .i64 a0_9, .int .i64 a0_10, .int .i64 a0_11, .int .i64 a0_12, .int .i64 a0_13, .int .i64 a0_14, .bool a0_15] 63 (0, 0)) (by (with_reducible repeat (first | refine blk_drewN ?_ _ | refine blk_drew ?_ | refine blk_alloc ?_ _)); exact BK190.out) hb)
    have n1_ := Aside0.mk (below_step (by repeat (first | (with_reducible first | exact HB.out | apply below_alloc | apply pw_below_drewN | apply below_drew1 | refine below_set ?_ GE190.out) | exact HB.out)) hb)
    clear BK190
    clear HB
    have BK190 := n0_
    have HB := n1_
    clear n0_ n1_
    (try clear hb)
    (try clear hb2)
    (try clear hk)
    (try clear hi)
    refine hK.out _ _ ⟨(blk_cell BK190.out 0).trans rfl, (blk_cell BK190.out 1).trans rfl, (blk_cell BK190.out 2).trans rfl, (blk_cell BK190.out 3).trans rfl, (blk_cell BK190.out 4).trans rfl, (blk_cell BK190.out 5).trans rfl, (blk_cell BK190.out 6).trans rfl, (blk_cell BK190.out 7).trans rfl, (blk_cell BK190.out 8).trans rfl, (blk_cell BK190.out 9).trans rfl, (blk_cell BK190.out 10).trans rfl, (blk_cell BK190.out 11).trans rfl, (blk_cell BK190.out 12).trans rfl, (blk_cell BK190.out 13).trans rfl, (blk_cell BK190.out 14).trans rfl, (blk_cell BK190.out 15).trans rfl⟩ (fun hHeld => ?_)
    clear hK K
    refine norm_ (a' := ?_) ?_ ?_
    rotate_left
    · show Act.put _ (some 3) _ = _
      simp only [Act.put, List.setIfInBounds_toArray, List.set_cons_zero, List.set_cons_succ, i64_w, i32_w]
      rfl
    refine pure_ (i := 1) (N := some 4) (v := ?_) (a' := ?_) #[true, true, false, false, false, false, false, false, false, false] rfl rfl (any_of HT_.out (by kernel_rfl)) (fun _ _ _ h => h) (Or.inl ⟨by rfl, ?_⟩) ?_ ?_
    rotate_left
    · intro w'
      go_simp
      with_reducible rfl
    rotate_left
    · simp only [Act.put, List.setIfInBounds_toArray, List.set_cons_zero, List.set_cons_succ, i64_w, i32_w]
      rfl
    refine take_ (i := 2) (N := some 5) (v := ?_) (a' := ?_) #[true, true, true, false, false, false, false, false, false, false] rfl rfl (take_ofW HT_.out HW_.out (by kernel_rfl)) (fun _ _ _ h => h) (Or.inl ⟨by rfl, ?_⟩) hHeld ?_ ?_
    rotate_left
    · rintro w' ⟨s0, s1, s2, s3, s4, s5, s6, s7, s8, s9, s10, s11, s12, s13, s14, s15⟩
      go_simp
      with_reducible rfl
    rotate_left
    · simp only [Act.put, List.setIfInBounds_toArray, List.set_cons_zero, List.set_cons_succ, i64_w, i32_w]
      rfl
    refine take_ (i := 4) (N := some 7) (v := ?_) (a' := ?_) #[true, true, true, false, true, false, false, false, false, false] rfl rfl (take_ofW HT_.out HW_.out (by kernel_rfl)) (fun _ _ _ h => h) (Or.inl ⟨by rfl, ?_⟩) hHeld ?_ ?_
    rotate_left
    · rintro w' ⟨s0, s1, s2, s3, s4, s5, s6, s7, s8, s9, s10, s11, s12, s13, s14, s15⟩
      go_simp
      with_reducible rfl
    rotate_left
    · simp only [Act.put, List.setIfInBounds_toArray, List.set_cons_zero, List.set_cons_succ, i64_w, i32_w]
      rfl
    refine one_ (i := 3) (N := some 6) #[true, true, true, true, true, false, false, false, false, false] rfl rfl (one_of HT_.out (by kernel_rfl)) (by decide) (fun K hK => ?_)
    refine goes_ Try.func31 (by kernel_rfl) rfl #[.agg #[.int .i64 a0_0, .int .i64 a0_1, .int .u8 a0_2, .int .u16 a0_3, .int .u16 a0_4, .int .i64 a0_5, .int .i64 a0_6, .int .i64 a0_7, .int .i64 a0_8, .int .i64 a0_9, .int .i64 a0_10, .int .i64 a0_11, .int .i64 a0_12, .int .i64 a0_13, .int .i64 a0_14, .bool a0_15]] (by rfl) rfl rfl (by (try simp only [List.map_toArray, List.map_cons, List.map_nil]); first | done | rfl | (simp only [List.length_drop, List.length_take]; rfl)) ?_
    with_reducible refine (plan_Plan_Check.calls k a0_0 a0_1 a0_2 a0_3 a0_4 a0_5 a0_6 a0_7 a0_8 a0_9 a0_10 a0_11 a0_12 a0_13 a0_14 a0_15 t192 _ A4.out).mono ?_
    rintro e w10 ⟨rfl, hb⟩
    refine ⟨_, rfl, ?_⟩
    have n0_ := Aside0.mk (blk_below (g := gb190) (o := .cells #[.int .i64 a0_0, .int .i64 a0_1, .int .u8 a0_2, .int .u16 a0_3, .int .u16 a0_4, .int .i64 a0_5, .int .i64 a0_6, .int .i64 a0_7, .int .i64 a0_8, .int .i64 a0_9, .int .i64 a0_10, .int .i64 a0_11, .int .i64 a0_12, .int .i64 a0_13, .int .i64 a0_14, .bool a0_15] 63 (0, 0)) (by (with_reducible repeat (first | refine blk_drewN ?_ _ | refine blk_drew ?_ | refine blk_alloc ?_ _)); exact BK190.out) hb)
    have n1_ := Aside0.mk (below_step (by repeat (first | (with_reducible first | exact HB.out | apply below_alloc | apply pw_below_drewN | apply below_drew1 | refine below_set ?_ GE190.out) | exact HB.out)) hb)
    clear BK190
    clear HB
    have BK190 := n0_
    have HB := n1_
    clear n0_ n1_
    (try clear hb)
    (try clear hb2)
    (try clear hk)
    (try clear hi)
    refine hK.out _ _ ⟨(blk_cell BK190.out 0).trans rfl, (blk_cell BK190.out 1).trans rfl, (blk_cell BK190.out 2).trans rfl, (blk_cell BK190.out 3).trans rfl, (blk_cell BK190.out 4).trans rfl, (blk_cell BK190.out 5).trans rfl, (blk_cell BK190.out 6).trans rfl, (blk_cell BK190.out 7).trans rfl, (blk_cell BK190.out 8).trans rfl, (blk_cell BK190.out 9).trans rfl, (blk_cell BK190.out 10).trans rfl, (blk_cell BK190.out 11).trans rfl, (blk_cell BK190.out 12).trans rfl, (blk_cell BK190.out 13).trans rfl, (blk_cell BK190.out 14).trans rfl, (blk_cell BK190.out 15).trans rfl⟩ (fun hHeld => ?_)
    clear hK K
    refine norm_ (a' := ?_) ?_ ?_
    rotate_left
    · show Act.put _ (some 6) _ = _
      simp only [Act.put, List.setIfInBounds_toArray, List.set_cons_zero, List.set_cons_succ, i64_w, i32_w]
      rfl
    refine one_ (i := 5) (N := some 8) #[true, true, true, true, true, true, false, false, false, false] rfl rfl (one_of HT_.out (by kernel_rfl)) (by decide) (fun K hK => ?_)
    refine goes_ Try.func33 (by kernel_rfl) rfl #[.agg #[.int .i64 a0_0, .int .i64 a0_1, .int .u8 a0_2, .int .u16 a0_3, .int .u16 a0_4, .int .i64 a0_5, .int .i64 a0_6, .int .i64 a0_7, .int .i64 a0_8, .int .i64 a0_9, .int .i64 a0_10, .int .i64 a0_11, .int .i64 a0_12, .int .i64 a0_13, .int .i64 a0_14, .bool a0_15]] (by rfl) rfl rfl (by (try simp only [List.map_toArray, List.map_cons, List.map_nil]); first | done | rfl | (simp only [List.length_drop, List.length_take]; rfl)) ?_
    with_reducible refine (carousellaw16_Of.calls a0_0 a0_1 a0_2 a0_3 a0_4 a0_5 a0_6 a0_7 a0_8 a0_9 a0_10 a0_11 a0_12 a0_13 a0_14 a0_15 t193 t194 t195 t196 t197 t198 t199 t200 t201 t202 t203 t204 t205 t206 t207 t208 _ A5.out).mono ?_
    rintro e w11 ⟨rfl, hb⟩
    refine ⟨_, rfl, ?_⟩
    have n0_ := Aside0.mk (blk_below (g := gb190) (o := .cells #[.int .i64 a0_0, .int .i64 a0_1, .int .u8 a0_2, .int .u16 a0_3, .int .u16 a0_4, .int .i64 a0_5, .int .i64 a0_6, .int .i64 a0_7, .int .i64 a0_8, .int .i64 a0_9, .int .i64 a0_10, .int .i64 a0_11, .int .i64 a0_12, .int .i64 a0_13, .int .i64 a0_14, .bool a0_15] 63 (0, 0)) (by (with_reducible repeat (first | refine blk_drewN ?_ _ | refine blk_drew ?_ | refine blk_alloc ?_ _)); exact BK190.out) hb)
    have n1_ := Aside0.mk (below_step (by repeat (first | (with_reducible first | exact HB.out | apply below_alloc | apply pw_below_drewN | apply below_drew1 | refine below_set ?_ GE190.out) | exact HB.out)) hb)
    clear BK190
    clear HB
    have BK190 := n0_
    have HB := n1_
    clear n0_ n1_
    (try clear hb)
    (try clear hb2)
    (try clear hk)
    (try clear hi)
    refine hK.out _ _ ⟨(blk_cell BK190.out 0).trans rfl, (blk_cell BK190.out 1).trans rfl, (blk_cell BK190.out 2).trans rfl, (blk_cell BK190.out 3).trans rfl, (blk_cell BK190.out 4).trans rfl, (blk_cell BK190.out 5).trans rfl, (blk_cell BK190.out 6).trans rfl, (blk_cell BK190.out 7).trans rfl, (blk_cell BK190.out 8).trans rfl, (blk_cell BK190.out 9).trans rfl, (blk_cell BK190.out 10).trans rfl, (blk_cell BK190.out 11).trans rfl, (blk_cell BK190.out 12).trans rfl, (blk_cell BK190.out 13).trans rfl, (blk_cell BK190.out 14).trans rfl, (blk_cell BK190.out 15).trans rfl⟩ (fun hHeld => ?_)
    clear hK K
    refine norm_ (a' := ?_) ?_ ?_
    rotate_left
    · show Act.put _ (some 8) _ = _
      simp only [Act.put, List.setIfInBounds_toArray, List.set_cons_zero, List.set_cons_succ, i64_w, i32_w]
      rfl
    refine one_ (i := 6) (N := some 9) #[true, true, true, true, true, true, true, false, false, false] rfl rfl (one_of HT_.out (by kernel_rfl)) (by decide) (fun K hK => ?_)
    refine goes_ Try.func32 (by kernel_rfl) rfl #[.agg #[.int .i64 t193, .int .i64 t194, .int .u8 t195, .int .u16 t196, .int .u16 t197, .int .i64 t198, .int .i64 t199, .int .i64 t200, .int .i64 t201, .int .i64 t202, .int .i64 t203, .int .i64 t204, .int .i64 t205, .int .i64 t206, .int .i64 t207, .bool t208]] (by rfl) rfl rfl (by (try simp only [List.map_toArray, List.map_cons, List.map_nil]); first | done | rfl | (simp only [List.length_drop, List.length_take]; rfl)) ?_
    with_reducible refine (carouselref16_Check.calls k t193 t194 t195 t196 t197 t198 t199 t200 t201 t202 t203 t204 t205 t206 t207 t208 t209 _ A6.out).mono ?_
    rintro e w12 ⟨rfl, hb⟩
    refine ⟨_, rfl, ?_⟩
    have n0_ := Aside0.mk (blk_below (g := gb190) (o := .cells #[.int .i64 a0_0, .int .i64 a0_1, .int .u8 a0_2, .int .u16 a0_3, .int .u16 a0_4, .int .i64 a0_5, .int .i64 a0_6, .int .i64 a0_7, .int .i64 a0_8, .int .i64 a0_9, .int .i64 a0_10, .int .i64 a0_11, .int .i64 a0_12, .int .i64 a0_13, .int .i64 a0_14, .bool a0_15] 63 (0, 0)) (by (with_reducible repeat (first | refine blk_drewN ?_ _ | refine blk_drew ?_ | refine blk_alloc ?_ _)); exact BK190.out) hb)
    have n1_ := Aside0.mk (below_step (by repeat (first | (with_reducible first | exact HB.out | apply below_alloc | apply pw_below_drewN | apply below_drew1 | refine below_set ?_ GE190.out) | exact HB.out)) hb)
    clear BK190
    clear HB
    have BK190 := n0_
    have HB := n1_
    clear n0_ n1_
    (try clear hb)
    (try clear hb2)
    (try clear hk)
    (try clear hi)
    refine hK.out _ _ ⟨(blk_cell BK190.out 0).trans rfl, (blk_cell BK190.out 1).trans rfl, (blk_cell BK190.out 2).trans rfl, (blk_cell BK190.out 3).trans rfl, (blk_cell BK190.out 4).trans rfl, (blk_cell BK190.out 5).trans rfl, (blk_cell BK190.out 6).trans rfl, (blk_cell BK190.out 7).trans rfl, (blk_cell BK190.out 8).trans rfl, (blk_cell BK190.out 9).trans rfl, (blk_cell BK190.out 10).trans rfl, (blk_cell BK190.out 11).trans rfl, (blk_cell BK190.out 12).trans rfl, (blk_cell BK190.out 13).trans rfl, (blk_cell BK190.out 14).trans rfl, (blk_cell BK190.out 15).trans rfl⟩ (fun hHeld => ?_)
    clear hK K
    refine norm_ (a' := ?_) ?_ ?_
    rotate_left
    · show Act.put _ (some 9) _ = _
      simp only [Act.put, List.setIfInBounds_toArray, List.set_cons_zero, List.set_cons_succ, i64_w, i32_w]
      rfl
    refine pure_ (i := 7) (N := some 10) (v := ?_) (a' := ?_) #[true, true, true, true, true, true, true, true, false, false] rfl rfl (any_of HT_.out (by kernel_rfl)) (fun _ _ _ h => h) (Or.inl ⟨by rfl, ?_⟩) ?_ ?_
    rotate_left
    · intro w'
      go_simp
      with_reducible rfl
    rotate_left
    · simp only [Act.put, List.setIfInBounds_toArray, List.set_cons_zero, List.set_cons_succ, i64_w, i32_w]
      rfl
    refine pure_ (i := 8) (N := some 11) (v := ?_) (a' := ?_) #[true, true, true, true, true, true, true, true, true, false] rfl rfl (any_of HT_.out (by kernel_rfl)) (fun _ _ _ h => h) (Or.inl ⟨by rfl, ?_⟩) ?_ ?_
    rotate_left
    · intro w'
      go_simp
      with_reducible rfl
    rotate_left
    · simp only [Act.put, List.setIfInBounds_toArray, List.set_cons_zero, List.set_cons_succ, i64_w, i32_w]
      rfl
    refine pure_ (i := 9) (N := some 2) (v := ?_) (a' := ?_) #[true, true, true, true, true, true, true, true, true, true] rfl rfl (any_of HT_.out (by kernel_rfl)) (fun _ _ _ h => h) (Or.inl ⟨by rfl, ?_⟩) ?_ ?_
    rotate_left
    · intro w'
      go_simp
      with_reducible rfl
    rotate_left
    · simp only [Act.put, List.setIfInBounds_toArray, List.set_cons_zero, List.set_cons_succ, i64_w, i32_w]
      rfl
    refine done_ (done_of HT_.out (by kernel_rfl)) ?_
    try go_wp2
    go_ret
    exact ⟨by first | rfl | (simp [errW_none, errW_some] <;> rfl) | (simp [*, errW_none, errW_some] <;> rfl), by repeat (first | (with_reducible first | exact HB.out | apply below_alloc | apply pw_below_drewN | apply below_drew1 | refine below_set ?_ GE190.out) | exact HB.out)⟩
  · replace c3 := Bool.eq_false_iff.mpr c3
    subst c3
    have H1 : (some false) = some r := by rw [if_neg (show ¬ (false = true) by decide)] at H; exact H
    clear H
    have H := H1
    clear H1
    cases (Option.some.inj H).trans hT

/-- THE ONE PURE STATEMENT of carousellaw16_PlanChecks: yours. -/
def carousellaw16_PlanChecks.Pure : Prop := ∀ (a0_0 : Int) (a0_1 : Int) (a0_2 : Int) (a0_3 : Int) (a0_4 : Int) (a0_5 : Int) (a0_6 : Int) (a0_7 : Int) (a0_8 : Int) (a0_9 : Int) (a0_10 : Int) (a0_11 : Int) (a0_12 : Int) (a0_13 : Int) (a0_14 : Int) (a0_15 : Bool), (Lit.int .i64 a0_0).wf = true → (Lit.int .i64 a0_1).wf = true → (Lit.int .u8 a0_2).wf = true → (Lit.int .u16 a0_3).wf = true → (Lit.int .u16 a0_4).wf = true → (Lit.int .i64 a0_5).wf = true → (Lit.int .i64 a0_6).wf = true → (Lit.int .i64 a0_7).wf = true → (Lit.int .i64 a0_8).wf = true → (Lit.int .i64 a0_9).wf = true → (Lit.int .i64 a0_10).wf = true → (Lit.int .i64 a0_11).wf = true → (Lit.int .i64 a0_12).wf = true → (Lit.int .i64 a0_13).wf = true → (Lit.int .i64 a0_14).wf = true → ∃ k, carousellaw16_PlanChecks.f k a0_0 a0_1 a0_2 a0_3 a0_4 a0_5 a0_6 a0_7 a0_8 a0_9 a0_10 a0_11 a0_12 a0_13 a0_14 a0_15 = some true
theorem carousellaw16_PlanChecks.walk (P : carousellaw16_PlanChecks.Pure) (a0_0 : Int) (a0_1 : Int) (a0_2 : Int) (a0_3 : Int) (a0_4 : Int) (a0_5 : Int) (a0_6 : Int) (a0_7 : Int) (a0_8 : Int) (a0_9 : Int) (a0_10 : Int) (a0_11 : Int) (a0_12 : Int) (a0_13 : Int) (a0_14 : Int) (a0_15 : Bool) (w : World) (w0_0 : (Lit.int .i64 a0_0).wf = true) (w0_1 : (Lit.int .i64 a0_1).wf = true) (w0_2 : (Lit.int .u8 a0_2).wf = true) (w0_3 : (Lit.int .u16 a0_3).wf = true) (w0_4 : (Lit.int .u16 a0_4).wf = true) (w0_5 : (Lit.int .i64 a0_5).wf = true) (w0_6 : (Lit.int .i64 a0_6).wf = true) (w0_7 : (Lit.int .i64 a0_7).wf = true) (w0_8 : (Lit.int .i64 a0_8).wf = true) (w0_9 : (Lit.int .i64 a0_9).wf = true) (w0_10 : (Lit.int .i64 a0_10).wf = true) (w0_11 : (Lit.int .i64 a0_11).wf = true) (w0_12 : (Lit.int .i64 a0_12).wf = true) (w0_13 : (Lit.int .i64 a0_13).wf = true) (w0_14 : (Lit.int .i64 a0_14).wf = true) :
    Calls Try.prog 8 #[.agg #[.int .i64 a0_0, .int .i64 a0_1, .int .u8 a0_2, .int .u16 a0_3, .int .u16 a0_4, .int .i64 a0_5, .int .i64 a0_6, .int .i64 a0_7, .int .i64 a0_8, .int .i64 a0_9, .int .i64 a0_10, .int .i64 a0_11, .int .i64 a0_12, .int .i64 a0_13, .int .i64 a0_14, .bool a0_15]] w fun e w' => e = .returned (.bool true) ∧ Below w.heap.size w w' := by
  obtain ⟨k, h⟩ := P a0_0 a0_1 a0_2 a0_3 a0_4 a0_5 a0_6 a0_7 a0_8 a0_9 a0_10 a0_11 a0_12 a0_13 a0_14 a0_15 w0_0 w0_1 w0_2 w0_3 w0_4 w0_5 w0_6 w0_7 w0_8 w0_9 w0_10 w0_11 w0_12 w0_13 w0_14
  refine (carousellaw16_PlanChecks.calls k a0_0 a0_1 a0_2 a0_3 a0_4 a0_5 a0_6 a0_7 a0_8 a0_9 a0_10 a0_11 a0_12 a0_13 a0_14 a0_15 true w h rfl).mono ?_
  rintro e w' ⟨rfl, hd⟩
  exact ⟨rfl, hd⟩

end Go.Proofs.Ytmdaaphjndjakaf.PPlanChecks
