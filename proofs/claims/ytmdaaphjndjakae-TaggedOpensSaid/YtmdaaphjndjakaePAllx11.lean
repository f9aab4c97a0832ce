-- Written by a program of this work, after the translation.
import Derived.Test.YtmdaaphjndjakaePAllx0
import Derived.Test.YtmdaaphjndjakaePAllx4
import Derived.Test.YtmdaaphjndjakaePAllx10
namespace Go.Proofs.Ytmdaaphjndjakae.PAll
open Go.RowKit Go.Proofs.YtmdaaphjndjakaeW.PrintWords Go.Proofs.YtmdaaphjndjakaeW.PrintLast Go.Proofs.YtmdaaphjndjakaeW.PrintMore
attribute [local go_sem] max2_int min2_int max_two min_two max_three min_three max_four min_four   -- for this text's walks alone
set_option linter.unusedVariables false
set_option linter.unusedSimpArgs false

/-! ### tagged_Open: function 10 -/
def tagged_Open.f (k : Nat) (a0 : ByteArray) : Option (Int × Int × Int × Bool × Int × Int × ByteArray × Int) := if (a0.size : Int) > 1600 then (some (0, 0, 0, false, 0, 0, (⟨#[]⟩ : ByteArray), 2)) else ((field_Split.f k a0 (([48, 48, 16, 3, 1, 12, 16] : List Int))).bind fun bt146 => (if bt146.2.2 = 0 then (if 2 < (bt146.1.length : Int) then (if (rd bt146.1 2) = 33024 then (if 0 < (bt146.1.length : Int) then (if 1 < (bt146.1.length : Int) then (if 3 < (bt146.1.length : Int) then (if 4 < (bt146.1.length : Int) then (if 5 < (bt146.1.length : Int) then (if 6 < (bt146.1.length : Int) then ((tagged_Frame_wrong.f k (rd bt146.1 0) (rd bt146.1 1) ((rd bt146.1 3) % 256) ((rd bt146.1 4) == 1) (IntKind.u16.wrap (rd bt146.1 5)) (IntKind.u16.wrap (rd bt146.1 6)) bt146.2.1).bind fun t159 => (if t159 = 0 then (some (rd bt146.1 0, rd bt146.1 1, (rd bt146.1 3) % 256, ((rd bt146.1 4) == 1), IntKind.u16.wrap (rd bt146.1 5), IntKind.u16.wrap (rd bt146.1 6), bt146.2.1, 0)) else (some (0, 0, 0, false, 0, 0, (⟨#[]⟩ : ByteArray), t159)))) else (none)) else (none)) else (none)) else (none)) else (none)) else (none)) else (some (0, 0, 0, false, 0, 0, (⟨#[]⟩ : ByteArray), 5))) else (none)) else (some (0, 0, 0, false, 0, 0, (⟨#[]⟩ : ByteArray), 1))))
theorem tagged_Open.mono : ∀ a0 k, LeO (tagged_Open.f k a0) (tagged_Open.f (k + 1) a0) := by
  intro a0 k
  unfold tagged_Open.f
  repeat' first
      | (with_reducible exact field_Split.mono _ _ _)
      | (with_reducible exact tagged_Frame_wrong.mono _ _ _ _ _ _ _ _)
      | (with_reducible exact LeO.refl _)
      | (with_reducible exact LeO.none _)
      | (with_reducible refine LeO.ite ?_ ?_)
      | (with_reducible refine LeO.bind ?_ (fun _ => ?_))
      | exact field_Split.mono _ _ _
      | exact tagged_Frame_wrong.mono _ _ _ _ _ _ _ _
      | exact LeO.none _
      | refine LeO.ite ?_ ?_
      | refine LeO.bind ?_ (fun _ => ?_)
def tagged_Open.T8 : Bool × List (List Nat × List Nat) := (true, [([], []), ([0], [0]), ([1], [1]), ([], []), ([3], [3]), ([4], [4]), ([], []), ([6], [6]), ([7], [7]), ([8], [8]), ([], []), ([10], [10]), ([11], [11]), ([12], [12]), ([], []), ([14], [14]), ([15], [15]), ([16], [16]), ([], []), ([18], [18]), ([19], [19]), ([20], [20]), ([], []), ([2, 5, 9, 13, 17, 21, 22], [2, 5, 9, 13, 17, 21, 22]), ([], []), ([24, 23, 0, 1, 2, 3, 4, 5, 6, 7, 8, 9, 10, 11, 12, 13, 14, 15, 16, 17, 18, 19, 20, 21, 22, 23, 24], [23, 24])])
def tagged_Open.B8 : List Nat := [0, 1, 3, 0, 8, 24, 0, 64, 192, 448, 0, 1024, 3072, 7168, 0, 16384, 49152, 114688, 0, 262144, 786432, 1835008, 0, 8388607, 0, 33554431]
theorem tagged_Open.tab8 : rtab .any (opsOf Try.f10 8) = tagged_Open.T8 := by kernel_rfl
theorem tagged_Open.bits8 : waitsOk tagged_Open.T8.2 tagged_Open.B8 = true := by kernel_rfl
set_option maxHeartbeats 8000000 in
set_option maxRecDepth 100000 in
theorem tagged_Open.calls (k : Nat) (a0 : ByteArray) (r1 : Int) (r2 : Int) (r3 : Int) (r4 : Bool) (r5 : Int) (r6 : Int) (r7 : ByteArray) (r8 : Int) (w : World) (h : tagged_Open.f k a0 = some (r1, r2, r3, r4, r5, r6, r7, r8)) :
    Calls Try.prog 10 #[.string a0] w fun e w' => e = .returned (.tuple #[.agg #[.int .u64 r1, .int .u64 r2, .int .u8 r3, .bool r4, .int .u16 r5, .int .u16 r6, .string r7], .int .i64 r8]) ∧ Below w.heap.size w w' := by
  have hu27 := Try.underlying27
  have HB := Aside0.mk (Below.refl w.heap.size w)
  have H : (if (a0.size : Int) > 1600 then (some (0, 0, 0, false, 0, 0, (⟨#[]⟩ : ByteArray), 2)) else ((field_Split.f k a0 (([48, 48, 16, 3, 1, 12, 16] : List Int))).bind fun bt146 => (if bt146.2.2 = 0 then (if 2 < (bt146.1.length : Int) then (if (rd bt146.1 2) = 33024 then (if 0 < (bt146.1.length : Int) then (if 1 < (bt146.1.length : Int) then (if 3 < (bt146.1.length : Int) then (if 4 < (bt146.1.length : Int) then (if 5 < (bt146.1.length : Int) then (if 6 < (bt146.1.length : Int) then ((tagged_Frame_wrong.f k (rd bt146.1 0) (rd bt146.1 1) ((rd bt146.1 3) % 256) ((rd bt146.1 4) == 1) (IntKind.u16.wrap (rd bt146.1 5)) (IntKind.u16.wrap (rd bt146.1 6)) bt146.2.1).bind fun t159 => (if t159 = 0 then (some (rd bt146.1 0, rd bt146.1 1, (rd bt146.1 3) % 256, ((rd bt146.1 4) == 1), IntKind.u16.wrap (rd bt146.1 5), IntKind.u16.wrap (rd bt146.1 6), bt146.2.1, 0)) else (some (0, 0, 0, false, 0, 0, (⟨#[]⟩ : ByteArray), t159)))) else (none)) else (none)) else (none)) else (none)) else (none)) else (none)) else (some (0, 0, 0, false, 0, 0, (⟨#[]⟩ : ByteArray), 5))) else (none)) else (some (0, 0, 0, false, 0, 0, (⟨#[]⟩ : ByteArray), 1))))) = some (r1, r2, r3, r4, r5, r6, r7, r8) := h
  clear h
  by_cases c2 : (a0.size : Int) > 1600
  · rw [if_pos c2] at H
    have c2b0 : decide (1600 < (a0.size : Int)) = true := decide_eq_true c2
    have c2b1 : decide (1600 < a0.size) = true := decide_eq_true (by omega)
    clear c2
    simp only [Option.some.injEq, Prod.mk.injEq] at H
    obtain ⟨rfl, rfl, rfl, rfl, rfl, rfl, rfl, rfl⟩ := H
    go_enter Try.func10, Try.ntmps10
    go_wp2_with (first | ((with_reducible refine gate_dst (N := 2) rfl ?_); refine box_event ?hg (N := 2) ?hd (cs := #[.int .u64 0, .int .u64 0, .int .u8 0, .bool false, .int .u16 0, .int .u16 0, .string (⟨#[]⟩ : ByteArray)]) (t := 27) ?hr ?_; (case hd => rfl); (case hg => rfl); (case hr => first | (go_simp; done) | (go_simp; rfl)); intro gb142 hg w3 hbox hb; have n0_ := Aside0.mk (below_step (by repeat (first | (with_reducible first | exact HB.out | apply below_alloc | apply pw_below_drewN | apply below_drew1) | exact HB.out)) hb); have n1_ := Aside0.mk (hbox); have n2_ := Aside0.mk ((by rw [hg]; exact (below_size (by repeat (first | (with_reducible first | exact HB.out | apply below_alloc | apply pw_below_drewN | apply below_drew1) | exact HB.out))) : w.heap.size ≤ gb142)); have n3_ := Aside0.mk ((by rw [hg]; exact (below_size (by repeat (first | (with_reducible first | exact HB.out | apply below_alloc | apply pw_below_drewN | apply below_drew1) | exact HB.out))) : w.heap.size ≤ gb142)); clear HB; have HB := n0_; have BK142 := n1_; have GW142 := n2_; have GE142 := n3_; clear n0_ n1_ n2_ n3_; clear hb hbox hg; have hcz4_0 : w3.cell? ⟨gb142, 0, none⟩ = some (.int .u64 0) := (blk_cell BK142.out 0).trans rfl; have hcz4_1 : w3.cell? ⟨gb142, 1, none⟩ = some (.int .u64 0) := (blk_cell BK142.out 1).trans rfl; have hcz4_2 : w3.cell? ⟨gb142, 2, none⟩ = some (.int .u8 0) := (blk_cell BK142.out 2).trans rfl; have hcz4_3 : w3.cell? ⟨gb142, 3, none⟩ = some (.bool false) := (blk_cell BK142.out 3).trans rfl; have hcz4_4 : w3.cell? ⟨gb142, 4, none⟩ = some (.int .u16 0) := (blk_cell BK142.out 4).trans rfl; have hcz4_5 : w3.cell? ⟨gb142, 5, none⟩ = some (.int .u16 0) := (blk_cell BK142.out 5).trans rfl; have hcz4_6 : w3.cell? ⟨gb142, 6, none⟩ = some (.string (⟨#[]⟩ : ByteArray)) := (blk_cell BK142.out 6).trans rfl; have hfz4_0 := blk_frozen BK142.out 0; have hfz4_1 := blk_frozen BK142.out 1; have hfz4_2 := blk_frozen BK142.out 2; have hfz4_3 := blk_frozen BK142.out 3; have hfz4_4 := blk_frozen BK142.out 4; have hfz4_5 := blk_frozen BK142.out 5; have hfz4_6 := blk_frozen BK142.out 6))
    refine bodyPost_ret (results_ct rfl _ _ gb142 27 #[.int .u64 0, .int .u64 0, .int .u8 0, .bool false, .int .u16 0, .int .u16 0, .string (⟨#[]⟩ : ByteArray)] (0, 0) _ rfl (by (with_reducible repeat (first | refine blk_drewN ?_ _ | refine blk_drew ?_ | refine blk_alloc ?_ _)); refine blk_put (cs := #[.int .u64 0, .int .u64 0, .int .u8 0, .bool false, .int .u16 0, .int .u16 0, .string (⟨#[]⟩ : ByteArray)]) ?_ 6 _ rfl; (with_reducible repeat (first | refine blk_drewN ?_ _ | refine blk_drew ?_ | refine blk_alloc ?_ _)); refine blk_put (cs := #[.int .u64 0, .int .u64 0, .int .u8 0, .bool false, .int .u16 0, .int .u16 0, .string (⟨#[]⟩ : ByteArray)]) ?_ 5 _ rfl; (with_reducible repeat (first | refine blk_drewN ?_ _ | refine blk_drew ?_ | refine blk_alloc ?_ _)); refine blk_put (cs := #[.int .u64 0, .int .u64 0, .int .u8 0, .bool false, .int .u16 0, .int .u16 0, .string (⟨#[]⟩ : ByteArray)]) ?_ 4 _ rfl; (with_reducible repeat (first | refine blk_drewN ?_ _ | refine blk_drew ?_ | refine blk_alloc ?_ _)); refine blk_put (cs := #[.int .u64 0, .int .u64 0, .int .u8 0, .bool false, .int .u16 0, .int .u16 0, .string (⟨#[]⟩ : ByteArray)]) ?_ 3 _ rfl; (with_reducible repeat (first | refine blk_drewN ?_ _ | refine blk_drew ?_ | refine blk_alloc ?_ _)); refine blk_put (cs := #[.int .u64 0, .int .u64 0, .int .u8 0, .bool false, .int .u16 0, .int .u16 0, .string (⟨#[]⟩ : ByteArray)]) ?_ 2 _ rfl; (with_reducible repeat (first | refine blk_drewN ?_ _ | refine blk_drew ?_ | refine blk_alloc ?_ _)); refine blk_put (cs := #[.int .u64 0, .int .u64 0, .int .u8 0, .bool false, .int .u16 0, .int .u16 0, .string (⟨#[]⟩ : ByteArray)]) ?_ 1 _ rfl; (with_reducible repeat (first | refine blk_drewN ?_ _ | refine blk_drew ?_ | refine blk_alloc ?_ _)); refine blk_put (cs := #[.int .u64 0, .int .u64 0, .int .u8 0, .bool false, .int .u16 0, .int .u16 0, .string (⟨#[]⟩ : ByteArray)]) ?_ 0 _ rfl; (with_reducible repeat (first | refine blk_drewN ?_ _ | refine blk_drew ?_ | refine blk_alloc ?_ _)); exact BK142.out) Try.underlying27 rfl (by kernel_rfl)) rfl ?_
    exact ⟨by first | rfl | (simp [errW_none, errW_some] <;> rfl) | (simp [*, errW_none, errW_some] <;> rfl), by repeat (first | (with_reducible first | exact HB.out | apply below_alloc | apply pw_below_drewN | apply below_drew1 | refine below_set ?_ GE142.out) | exact HB.out)⟩
  · rw [if_neg c2] at H
    have c2b0 : decide (1600 < (a0.size : Int)) = false := decide_eq_false c2
    have c2b1 : decide (1600 < a0.size) = false := decide_eq_false (by omega)
    clear c2
    obtain ⟨y143, hy143⟩ : ∃ y_ : List Int, y_ = (([48, 48, 16, 3, 1, 12, 16] : List Int)) := ⟨_, rfl⟩
    replace H : ((field_Split.f k a0 y143).bind fun bt146 => (if bt146.2.2 = 0 then (if 2 < (bt146.1.length : Int) then (if (rd bt146.1 2) = 33024 then (if 0 < (bt146.1.length : Int) then (if 1 < (bt146.1.length : Int) then (if 3 < (bt146.1.length : Int) then (if 4 < (bt146.1.length : Int) then (if 5 < (bt146.1.length : Int) then (if 6 < (bt146.1.length : Int) then ((tagged_Frame_wrong.f k (rd bt146.1 0) (rd bt146.1 1) ((rd bt146.1 3) % 256) ((rd bt146.1 4) == 1) (IntKind.u16.wrap (rd bt146.1 5)) (IntKind.u16.wrap (rd bt146.1 6)) bt146.2.1).bind fun t159 => (if t159 = 0 then (some (rd bt146.1 0, rd bt146.1 1, (rd bt146.1 3) % 256, ((rd bt146.1 4) == 1), IntKind.u16.wrap (rd bt146.1 5), IntKind.u16.wrap (rd bt146.1 6), bt146.2.1, 0)) else (some (0, 0, 0, false, 0, 0, (⟨#[]⟩ : ByteArray), t159)))) else (none)) else (none)) else (none)) else (none)) else (none)) else (none)) else (some (0, 0, 0, false, 0, 0, (⟨#[]⟩ : ByteArray), 5))) else (none)) else (some (0, 0, 0, false, 0, 0, (⟨#[]⟩ : ByteArray), 1)))) = some (r1, r2, r3, r4, r5, r6, r7, r8) := by first | (rw [hy143]; with_reducible exact H) | (have H2_ := (Option.bind_some _ _).symm.trans H; rw [hy143]; with_reducible exact H2_) | (have H2_ := (Option.bind_some _ _).symm.trans H; with_reducible exact H2_) | with_reducible exact H | (rw [hy143]; exact H) | exact H
    have Ny143 := Aside0.mk hy143
    clear hy143
    replace H := Option.bind_eq_some_iff.mp H
    obtain ⟨⟨t146, t147, t148⟩, A50, H⟩ := H
    replace H : (if t148 = 0 then (if 2 < (t146.length : Int) then (if (rd t146 2) = 33024 then (if 0 < (t146.length : Int) then (if 1 < (t146.length : Int) then (if 3 < (t146.length : Int) then (if 4 < (t146.length : Int) then (if 5 < (t146.length : Int) then (if 6 < (t146.length : Int) then ((tagged_Frame_wrong.f k (rd t146 0) (rd t146 1) ((rd t146 3) % 256) ((rd t146 4) == 1) (IntKind.u16.wrap (rd t146 5)) (IntKind.u16.wrap (rd t146 6)) t147).bind fun t159 => (if t159 = 0 then (some (rd t146 0, rd t146 1, (rd t146 3) % 256, ((rd t146 4) == 1), IntKind.u16.wrap (rd t146 5), IntKind.u16.wrap (rd t146 6), t147, 0)) else (some (0, 0, 0, false, 0, 0, (⟨#[]⟩ : ByteArray), t159)))) else (none)) else (none)) else (none)) else (none)) else (none)) else (none)) else (some (0, 0, 0, false, 0, 0, (⟨#[]⟩ : ByteArray), 5))) else (none)) else (some (0, 0, 0, false, 0, 0, (⟨#[]⟩ : ByteArray), 1))) = some (r1, r2, r3, r4, r5, r6, r7, r8) := H
    have A5 := Aside0.mk A50
    clear A50
    by_cases c6 : t148 = 0
    · rw [if_pos c6] at H
      have c6b0 : (t148 == 0) = true := beq_iff_eq.mpr c6
      have c6b1 : (t148 != 0) = false := bne_eq_false_iff_eq.mpr c6
      clear c6
      by_cases c7 : 2 < (t146.length : Int)
      · rw [if_pos c7] at H
        have c7b0 : decide (2 < (t146.length : Int)) = true := decide_eq_true c7
        have c7b1 : decide (2 < t146.length) = true := decide_eq_true (by omega)
        clear c7
        by_cases c8 : (rd t146 2) = 33024
        · rw [if_pos c8] at H
          have c8b0 : ((rd t146 2) == 33024) = true := beq_iff_eq.mpr c8
          have c8b1 : ((rd t146 2) != 33024) = false := bne_eq_false_iff_eq.mpr c8
          clear c8
          by_cases c9 : 0 < (t146.length : Int)
          · rw [if_pos c9] at H
            have c9b0 : decide (0 < (t146.length : Int)) = true := decide_eq_true c9
            have c9b1 : decide (0 < t146.length) = true := decide_eq_true (by omega)
            clear c9
            by_cases c10 : 1 < (t146.length : Int)
            · rw [if_pos c10] at H
              have c10b0 : decide (1 < (t146.length : Int)) = true := decide_eq_true c10
              have c10b1 : decide (1 < t146.length) = true := decide_eq_true (by omega)
              clear c10
              by_cases c11 : 3 < (t146.length : Int)
              · rw [if_pos c11] at H
                have c11b0 : decide (3 < (t146.length : Int)) = true := decide_eq_true c11
                have c11b1 : decide (3 < t146.length) = true := decide_eq_true (by omega)
                clear c11
                by_cases c12 : 4 < (t146.length : Int)
                · rw [if_pos c12] at H
                  have c12b0 : decide (4 < (t146.length : Int)) = true := decide_eq_true c12
                  have c12b1 : decide (4 < t146.length) = true := decide_eq_true (by omega)
                  clear c12
                  by_cases c13 : 5 < (t146.length : Int)
                  · rw [if_pos c13] at H
                    have c13b0 : decide (5 < (t146.length : Int)) = true := decide_eq_true c13
                    have c13b1 : decide (5 < t146.length) = true := decide_eq_true (by omega)
                    clear c13
                    by_cases c14 : 6 < (t146.length : Int)
                    · rw [if_pos c14] at H
                      have c14b0 : decide (6 < (t146.length : Int)) = true := decide_eq_true c14
                      have c14b1 : decide (6 < t146.length) = true := decide_eq_true (by omega)
                      clear c14
                      replace H := Option.bind_eq_some_iff.mp H
                      obtain ⟨t159, A150, H⟩ := H
                      replace H : (if t159 = 0 then (some (rd t146 0, rd t146 1, (rd t146 3) % 256, ((rd t146 4) == 1), IntKind.u16.wrap (rd t146 5), IntKind.u16.wrap (rd t146 6), t147, 0)) else (some (0, 0, 0, false, 0, 0, (⟨#[]⟩ : ByteArray), t159))) = some (r1, r2, r3, r4, r5, r6, r7, r8) := H
                      have A15 := Aside0.mk A150
                      clear A150
                      by_cases c16 : t159 = 0
                      · rw [if_pos c16] at H
                        have c16b0 : (t159 == 0) = true := beq_iff_eq.mpr c16
                        have c16b1 : (t159 != 0) = false := bne_eq_false_iff_eq.mpr c16
                        clear c16
                        simp only [Option.some.injEq, Prod.mk.injEq] at H
                        obtain ⟨rfl, rfl, rfl, rfl, rfl, rfl, rfl, rfl⟩ := H
                        go_enter Try.func10, Try.ntmps10
                        try go_wp2_with (first | ((with_reducible refine gate_dst (N := 2) rfl ?_); refine box_event ?hg (N := 2) ?hd (cs := #[.int .u64 0, .int .u64 0, .int .u8 0, .bool false, .int .u16 0, .int .u16 0, .string (⟨#[]⟩ : ByteArray)]) (t := 27) ?hr ?_; (case hd => rfl); (case hg => rfl); (case hr => first | (go_simp; done) | (go_simp; rfl)); intro gb142 hg w17 hbox hb; have n0_ := Aside0.mk (below_step (by repeat (first | (with_reducible first | exact HB.out | apply below_alloc | apply pw_below_drewN | apply below_drew1) | exact HB.out)) hb); have n1_ := Aside0.mk (hbox); have n2_ := Aside0.mk ((by rw [hg]; exact (below_size (by repeat (first | (with_reducible first | exact HB.out | apply below_alloc | apply pw_below_drewN | apply below_drew1) | exact HB.out))) : w.heap.size ≤ gb142)); have n3_ := Aside0.mk ((by rw [hg]; exact (below_size (by repeat (first | (with_reducible first | exact HB.out | apply below_alloc | apply pw_below_drewN | apply below_drew1) | exact HB.out))) : w.heap.size ≤ gb142)); clear HB; have HB := n0_; have BK142 := n1_; have GW142 := n2_; have GE142 := n3_; clear n0_ n1_ n2_ n3_; clear hb hbox hg) | ((with_reducible refine gate_dst (N := 15) rfl ?_); refine Kd.R_lit (Kd.int .i64) _ 3 ?hg (N := 15) ?hd (xs := ([48, 48, 16, 3, 1, 12, 16] : List Int)) (inner := [.int .i64 48, .int .i64 48, .int .i64 16, .int .i64 3, .int .i64 1, .int .i64 12, .int .i64 16]) (ok := fun _ => True) (okp := fun _ => True) ?hr ?hp (fun _ hk => hk) trivial (Below.refl _ _) (Nat.le_refl _) (by simp) ?_; (case hd => rfl); (case hg => rfl); (case hr => first | (go_simp; done) | (go_simp; rfl)); (case hp => exact (Reps.one (show Kd.M (Kd.int .i64) _ _ _ 48 [.int .i64 48] from rfl) (Reps.one (show Kd.M (Kd.int .i64) _ _ _ 48 [.int .i64 48] from rfl) (Reps.one (show Kd.M (Kd.int .i64) _ _ _ 16 [.int .i64 16] from rfl) (Reps.one (show Kd.M (Kd.int .i64) _ _ _ 3 [.int .i64 3] from rfl) (Reps.one (show Kd.M (Kd.int .i64) _ _ _ 1 [.int .i64 1] from rfl) (Reps.one (show Kd.M (Kd.int .i64) _ _ _ 12 [.int .i64 12] from rfl) (Reps.one (show Kd.M (Kd.int .i64) _ _ _ 16 [.int .i64 16] from rfl) (Reps.none _ _))))))))); intro v144 w18 ho19 hb hg_ hnew_; clear hg_ hnew_; (first | rw [← Ny143.out] at ho19 | (simp only [Int.reduceToNat] at ho19; rw [← Ny143.out] at ho19)); have n0_ := Aside0.mk (Kd.R_lower ho19 (below_size (by repeat (first | (with_reducible first | exact HB.out | apply below_alloc | apply pw_below_drewN | apply below_drew1 | refine below_set ?_ GE142.out) | exact HB.out)))); have n1_ := Aside0.mk (blk_below (g := gb142) (o := .cells #[.int .u64 0, .int .u64 0, .int .u8 0, .bool false, .int .u16 0, .int .u16 0, .string (⟨#[]⟩ : ByteArray)] 27 (0, 0)) (by (with_reducible repeat (first | refine blk_drewN ?_ _ | refine blk_drew ?_ | refine blk_alloc ?_ _)); exact BK142.out) hb); have n2_ := Aside0.mk (below_step (by repeat (first | (with_reducible first | exact HB.out | apply below_alloc | apply pw_below_drewN | apply below_drew1 | refine below_set ?_ GE142.out) | exact HB.out)) hb); clear BK142; clear HB; have HO145 := n0_; have BK142 := n1_; have HB := n2_; clear n0_ n1_ n2_; clear hb ho19; obtain ⟨Ao20, co20, eo20⟩ := Kd.R_slice HO145.out; subst eo20) | ((with_reducible refine gate_callee (f := 30) rfl ?_); refine goesL_ (some 16) rfl rfl Try.func30 (by kernel_rfl) rfl #[.string a0, .slice Ao20 y143.length co20] rfl (by (try simp only [List.map_toArray, List.map_cons, List.map_nil]); first | done | rfl | (simp only [List.length_drop, List.length_take]; rfl)) ?_; (with_reducible refine (field_Split.calls k a0 _ _ y143 t146 t147 t148 _ ?side1 ?side2 A5.out).mono ?_); (case side1 => repeat (first | exact (Kd.R_reads' HO145.out).2.2 | (with_reducible refine Kd.C_alloc ?_ _) | (with_reducible refine Kd.C_drewN ?_ _) | (with_reducible refine Kd.C_drew ?_))); (case side2 => exact (Kd.R_reads' HO145.out).2.1); rintro e w21 ⟨v149, rfl, ho0, hb⟩; refine ⟨_, rfl, ?_⟩; have n0_ := Aside0.mk (Kd.R_below (by (with_reducible repeat (first | apply Kd.R_alloc | apply Kd.R_drewN | apply Kd.R_drew)); exact HO145.out) hb); have n1_ := Aside0.mk (Kd.R_lower ho0 (below_size (by repeat (first | (with_reducible first | exact HB.out | apply below_alloc | apply pw_below_drewN | apply below_drew1 | refine below_set ?_ GE142.out) | exact HB.out)))); have n2_ := Aside0.mk (blk_below (g := gb142) (o := .cells #[.int .u64 0, .int .u64 0, .int .u8 0, .bool false, .int .u16 0, .int .u16 0, .string (⟨#[]⟩ : ByteArray)] 27 (0, 0)) (by (with_reducible repeat (first | refine blk_drewN ?_ _ | refine blk_drew ?_ | refine blk_alloc ?_ _)); exact BK142.out) hb); have n3_ := Aside0.mk (below_step (by repeat (first | (with_reducible first | exact HB.out | apply below_alloc | apply pw_below_drewN | apply below_drew1 | refine below_set ?_ GE142.out) | exact HB.out)) hb); clear HO145; clear BK142; clear HB; have HO145 := n0_; have HO150 := n1_; have BK142 := n2_; have HB := n3_; clear n0_ n1_ n2_ n3_; (try clear hb); (try clear hb2); (try clear hk); (try clear hi); (try clear ho0); obtain ⟨Ao22, co22, eo22⟩ := Kd.R_slice HO150.out; subst eo22; have p151 : 0 ≤ (2 : Int) := (by omega); have q151 : 2 < (t146.length : Int) := of_decide_eq_true (by first | (with_reducible assumption) | assumption); obtain ⟨ad151, e151, hx151_0⟩ := Kd.at_int (Kd.R_reads' HO150.out).2.2 2 p151 q151; cases e151; (try simp only [show (2 : Int).toNat = 2 from rfl, Nat.reduceMul, Nat.reduceEqDiff, Go.Addr.add, ↓reduceIte] at hx151_0); have qi151 : (2 < t146.length) = True := eq_true (by omega); (try rw [show ((2 : Int)).toNat = 2 from rfl] at hx151_0); replace p151 := eq_true p151; replace q151 := eq_true q151))
                        have n0_ := Aside0.mk (Kd.R_drew HO145.out)
                        have n1_ := Aside0.mk (Kd.R_drew HO150.out)
                        have n2_ := Aside0.mk (blk_drew BK142.out)
                        have n3_ := Aside0.mk (below_drew1 HB.out)
                        clear HO145
                        clear HO150
                        clear BK142
                        clear HB
                        have HO145 := n0_
                        have HO150 := n1_
                        have BK142 := n2_
                        have HB := n3_
                        clear n0_ n1_ n2_ n3_
                        have p152 : 0 ≤ (0 : Int) := (by omega)
                        have q152 : 0 < (t146.length : Int) := of_decide_eq_true (by first | (with_reducible assumption) | assumption)
                        obtain ⟨ad152, e152, hx152_0⟩ := Kd.at_int (Kd.R_reads' HO150.out).2.2 0 p152 q152
                        obtain rfl : ad151 = ad152 := (by injection e152)
                        have qi152 : (0 < t146.length) = True := eq_true (by omega)
                        (try rw [show ((0 : Int)).toNat = 0 from rfl] at hx152_0)
                        (try rw [Addr.add_zero'] at hx152_0)
                        replace p152 := eq_true p152
                        replace q152 := eq_true q152
                        have p153 : 0 ≤ (1 : Int) := (by omega)
                        have q153 : 1 < (t146.length : Int) := of_decide_eq_true (by first | (with_reducible assumption) | assumption)
                        obtain ⟨ad153, e153, hx153_0⟩ := Kd.at_int (Kd.R_reads' HO150.out).2.2 1 p153 q153
                        obtain rfl : ad151 = ad153 := (by injection e153)
                        (try simp only [show (1 : Int).toNat = 1 from rfl, Nat.reduceMul, Nat.reduceEqDiff, Go.Addr.add, ↓reduceIte] at hx153_0)
                        have qi153 : (1 < t146.length) = True := eq_true (by omega)
                        (try rw [show ((1 : Int)).toNat = 1 from rfl] at hx153_0)
                        replace p153 := eq_true p153
                        replace q153 := eq_true q153
                        have p154 : 0 ≤ (3 : Int) := (by omega)
                        have q154 : 3 < (t146.length : Int) := of_decide_eq_true (by first | (with_reducible assumption) | assumption)
                        obtain ⟨ad154, e154, hx154_0⟩ := Kd.at_int (Kd.R_reads' HO150.out).2.2 3 p154 q154
                        obtain rfl : ad151 = ad154 := (by injection e154)
                        (try simp only [show (3 : Int).toNat = 3 from rfl, Nat.reduceMul, Nat.reduceEqDiff, Go.Addr.add, ↓reduceIte] at hx154_0)
                        have qi154 : (3 < t146.length) = True := eq_true (by omega)
                        (try rw [show ((3 : Int)).toNat = 3 from rfl] at hx154_0)
                        replace p154 := eq_true p154
                        replace q154 := eq_true q154
                        have p155 : 0 ≤ (4 : Int) := (by omega)
                        have q155 : 4 < (t146.length : Int) := of_decide_eq_true (by first | (with_reducible assumption) | assumption)
                        obtain ⟨ad155, e155, hx155_0⟩ := Kd.at_int (Kd.R_reads' HO150.out).2.2 4 p155 q155
                        obtain rfl : ad151 = ad155 := (by injection e155)
                        (try simp only [show (4 : Int).toNat = 4 from rfl, Nat.reduceMul, Nat.reduceEqDiff, Go.Addr.add, ↓reduceIte] at hx155_0)
                        have qi155 : (4 < t146.length) = True := eq_true (by omega)
                        (try rw [show ((4 : Int)).toNat = 4 from rfl] at hx155_0)
                        replace p155 := eq_true p155
                        replace q155 := eq_true q155
                        have p156 : 0 ≤ (5 : Int) := (by omega)
                        have q156 : 5 < (t146.length : Int) := of_decide_eq_true (by first | (with_reducible assumption) | assumption)
                        obtain ⟨ad156, e156, hx156_0⟩ := Kd.at_int (Kd.R_reads' HO150.out).2.2 5 p156 q156
                        obtain rfl : ad151 = ad156 := (by injection e156)
                        (try simp only [show (5 : Int).toNat = 5 from rfl, Nat.reduceMul, Nat.reduceEqDiff, Go.Addr.add, ↓reduceIte] at hx156_0)
                        have qi156 : (5 < t146.length) = True := eq_true (by omega)
                        (try rw [show ((5 : Int)).toNat = 5 from rfl] at hx156_0)
                        replace p156 := eq_true p156
                        replace q156 := eq_true q156
                        have p157 : 0 ≤ (6 : Int) := (by omega)
                        have q157 : 6 < (t146.length : Int) := of_decide_eq_true (by first | (with_reducible assumption) | assumption)
                        obtain ⟨ad157, e157, hx157_0⟩ := Kd.at_int (Kd.R_reads' HO150.out).2.2 6 p157 q157
                        obtain rfl : ad151 = ad157 := (by injection e157)
                        (try simp only [show (6 : Int).toNat = 6 from rfl, Nat.reduceMul, Nat.reduceEqDiff, Go.Addr.add, ↓reduceIte] at hx157_0)
                        have qi157 : (6 < t146.length) = True := eq_true (by omega)
                        (try rw [show ((6 : Int)).toNat = 6 from rfl] at hx157_0)
                        replace p157 := eq_true p157
                        replace q157 := eq_true q157
                        refine start_ (n := 26) (S := fun w' => w'.cell? ad151 = some (.int .u64 (rd t146 0)) ∧ w'.cell? ⟨ad151.block, ad151.off + 1, none⟩ = some (.int .u64 (rd t146 1)) ∧ w'.cell? ⟨ad151.block, ad151.off + 3, none⟩ = some (.int .u64 (rd t146 3)) ∧ w'.cell? ⟨ad151.block, ad151.off + 4, none⟩ = some (.int .u64 (rd t146 4)) ∧ w'.cell? ⟨ad151.block, ad151.off + 5, none⟩ = some (.int .u64 (rd t146 5)) ∧ w'.cell? ⟨ad151.block, ad151.off + 6, none⟩ = some (.int .u64 (rd t146 6))) (ds := []) #[false, false, false, false, false, false, false, false, false, false, false, false, false, false, false, false, false, false, false, false, false, false, false, false, false, false] (by kernel_rfl) rfl rfl ⟨hx152_0, hx153_0, hx154_0, hx155_0, hx156_0, hx157_0⟩ (fun hHeld => ?_); refine with_tabW tagged_Open.tab8 tagged_Open.bits8 (fun HT_ HW_ => ?_)
                        generalize w21.drew = w23 at HO145 HO150 BK142 HB hx152_0 hx153_0 hx154_0 hx155_0 hx156_0 hx157_0 hHeld ⊢
                        refine pure_ (i := 0) (N := some 30) (v := ?_) (a' := ?_) #[true, false, false, false, false, false, false, false, false, false, false, false, false, false, false, false, false, false, false, false, false, false, false, false, false, false] rfl rfl (any_of HT_.out (by kernel_rfl)) (fun _ _ _ h => h) (Or.inl ⟨by rfl, ?_⟩) ?_ ?_
                        rotate_left
                        · intro w'
                          go_simp
                          with_reducible rfl
                        rotate_left
                        · simp only [Act.put, List.setIfInBounds_toArray, List.set_cons_zero, List.set_cons_succ, i64_w, i32_w]
                          rfl
                        refine pure_ (i := 1) (N := some 31) (v := ?_) (a' := ?_) #[true, true, false, false, false, false, false, false, false, false, false, false, false, false, false, false, false, false, false, false, false, false, false, false, false, false] rfl rfl (any_of HT_.out (by kernel_rfl)) (fun _ _ _ h => h) (Or.inl ⟨by rfl, ?_⟩) ?_ ?_
                        rotate_left
                        · intro w'
                          go_simp
                          with_reducible rfl
                        rotate_left
                        · simp only [Act.put, List.setIfInBounds_toArray, List.set_cons_zero, List.set_cons_succ, i64_w, i32_w]
                          rfl
                        refine pure_ (i := 3) (N := some 33) (v := ?_) (a' := ?_) #[true, true, false, true, false, false, false, false, false, false, false, false, false, false, false, false, false, false, false, false, false, false, false, false, false, false] rfl rfl (any_of HT_.out (by kernel_rfl)) (fun _ _ _ h => h) (Or.inl ⟨by rfl, ?_⟩) ?_ ?_
                        rotate_left
                        · intro w'
                          go_simp
                          with_reducible rfl
                        rotate_left
                        · simp only [Act.put, List.setIfInBounds_toArray, List.set_cons_zero, List.set_cons_succ, i64_w, i32_w]
                          rfl
                        refine pure_ (i := 4) (N := some 34) (v := ?_) (a' := ?_) #[true, true, false, true, true, false, false, false, false, false, false, false, false, false, false, false, false, false, false, false, false, false, false, false, false, false] rfl rfl (any_of HT_.out (by kernel_rfl)) (fun _ _ _ h => h) (Or.inl ⟨by rfl, ?_⟩) ?_ ?_
                        rotate_left
                        · intro w'
                          go_simp
                          with_reducible rfl
                        rotate_left
                        · simp only [Act.put, List.setIfInBounds_toArray, List.set_cons_zero, List.set_cons_succ, i64_w, i32_w]
                          rfl
                        refine pure_ (i := 6) (N := some 36) (v := ?_) (a' := ?_) #[true, true, false, true, true, false, true, false, false, false, false, false, false, false, false, false, false, false, false, false, false, false, false, false, false, false] rfl rfl (any_of HT_.out (by kernel_rfl)) (fun _ _ _ h => h) (Or.inl ⟨by rfl, ?_⟩) ?_ ?_
                        rotate_left
                        · intro w'
                          go_simp
                          with_reducible rfl
                        rotate_left
                        · simp only [Act.put, List.setIfInBounds_toArray, List.set_cons_zero, List.set_cons_succ, i64_w, i32_w]
                          rfl
                        refine pure_ (i := 7) (N := some 37) (v := ?_) (a' := ?_) #[true, true, false, true, true, false, true, true, false, false, false, false, false, false, false, false, false, false, false, false, false, false, false, false, false, false] rfl rfl (any_of HT_.out (by kernel_rfl)) (fun _ _ _ h => h) (Or.inl ⟨by rfl, ?_⟩) ?_ ?_
                        rotate_left
                        · intro w'
                          go_simp
                          with_reducible rfl
                        rotate_left
                        · simp only [Act.put, List.setIfInBounds_toArray, List.set_cons_zero, List.set_cons_succ, i64_w, i32_w]
                          rfl
                        refine pure_ (i := 10) (N := some 40) (v := ?_) (a' := ?_) #[true, true, false, true, true, false, true, true, false, false, true, false, false, false, false, false, false, false, false, false, false, false, false, false, false, false] rfl rfl (any_of HT_.out (by kernel_rfl)) (fun _ _ _ h => h) (Or.inl ⟨by rfl, ?_⟩) ?_ ?_
                        rotate_left
                        · intro w'
                          go_simp
                          with_reducible rfl
                        rotate_left
                        · simp only [Act.put, List.setIfInBounds_toArray, List.set_cons_zero, List.set_cons_succ, i64_w, i32_w]
                          rfl
                        refine pure_ (i := 11) (N := some 41) (v := ?_) (a' := ?_) #[true, true, false, true, true, false, true, true, false, false, true, true, false, false, false, false, false, false, false, false, false, false, false, false, false, false] rfl rfl (any_of HT_.out (by kernel_rfl)) (fun _ _ _ h => h) (Or.inl ⟨by rfl, ?_⟩) ?_ ?_
                        rotate_left
                        · intro w'
                          go_simp
                          with_reducible rfl
                        rotate_left
                        · simp only [Act.put, List.setIfInBounds_toArray, List.set_cons_zero, List.set_cons_succ, i64_w, i32_w]
                          rfl
                        refine pure_ (i := 14) (N := some 44) (v := ?_) (a' := ?_) #[true, true, false, true, true, false, true, true, false, false, true, true, false, false, true, false, false, false, false, false, false, false, false, false, false, false] rfl rfl (any_of HT_.out (by kernel_rfl)) (fun _ _ _ h => h) (Or.inl ⟨by rfl, ?_⟩) ?_ ?_
                        rotate_left
                        · intro w'
                          go_simp
                          with_reducible rfl
                        rotate_left
                        · simp only [Act.put, List.setIfInBounds_toArray, List.set_cons_zero, List.set_cons_succ, i64_w, i32_w]
                          rfl
                        refine pure_ (i := 15) (N := some 45) (v := ?_) (a' := ?_) #[true, true, false, true, true, false, true, true, false, false, true, true, false, false, true, true, false, false, false, false, false, false, false, false, false, false] rfl rfl (any_of HT_.out (by kernel_rfl)) (fun _ _ _ h => h) (Or.inl ⟨by rfl, ?_⟩) ?_ ?_
                        rotate_left
                        · intro w'
                          go_simp
                          with_reducible rfl
                        rotate_left
                        · simp only [Act.put, List.setIfInBounds_toArray, List.set_cons_zero, List.set_cons_succ, i64_w, i32_w]
                          rfl
                        refine pure_ (i := 18) (N := some 48) (v := ?_) (a' := ?_) #[true, true, false, true, true, false, true, true, false, false, true, true, false, false, true, true, false, false, true, false, false, false, false, false, false, false] rfl rfl (any_of HT_.out (by kernel_rfl)) (fun _ _ _ h => h) (Or.inl ⟨by rfl, ?_⟩) ?_ ?_
                        rotate_left
                        · intro w'
                          go_simp
                          with_reducible rfl
                        rotate_left
                        · simp only [Act.put, List.setIfInBounds_toArray, List.set_cons_zero, List.set_cons_succ, i64_w, i32_w]
                          rfl
                        refine pure_ (i := 19) (N := some 49) (v := ?_) (a' := ?_) #[true, true, false, true, true, false, true, true, false, false, true, true, false, false, true, true, false, false, true, true, false, false, false, false, false, false] rfl rfl (any_of HT_.out (by kernel_rfl)) (fun _ _ _ h => h) (Or.inl ⟨by rfl, ?_⟩) ?_ ?_
                        rotate_left
                        · intro w'
                          go_simp
                          with_reducible rfl
                        rotate_left
                        · simp only [Act.put, List.setIfInBounds_toArray, List.set_cons_zero, List.set_cons_succ, i64_w, i32_w]
                          rfl
                        refine pure_ (i := 22) (N := some 52) (v := ?_) (a' := ?_) #[true, true, false, true, true, false, true, true, false, false, true, true, false, false, true, true, false, false, true, true, false, false, true, false, false, false] rfl rfl (any_of HT_.out (by kernel_rfl)) (fun _ _ _ h => h) (Or.inl ⟨by rfl, ?_⟩) ?_ ?_
                        rotate_left
                        · intro w'
                          go_simp
                          with_reducible rfl
                        rotate_left
                        · simp only [Act.put, List.setIfInBounds_toArray, List.set_cons_zero, List.set_cons_succ, i64_w, i32_w]
                          rfl
                        refine take_ (i := 2) (N := some 32) (v := ?_) (a' := ?_) #[true, true, true, true, true, false, true, true, false, false, true, true, false, false, true, true, false, false, true, true, false, false, true, false, false, false] rfl rfl (take_ofW HT_.out HW_.out (by kernel_rfl)) (fun _ _ _ h => h) (Or.inl ⟨by rfl, ?_⟩) hHeld ?_ ?_
                        rotate_left
                        · rintro w' ⟨s0, s1, s2, s3, s4, s5⟩
                          go_simp
                          with_reducible rfl
                        rotate_left
                        · simp only [Act.put, List.setIfInBounds_toArray, List.set_cons_zero, List.set_cons_succ, i64_w, i32_w]
                          rfl
                        refine take_ (i := 5) (N := some 35) (v := ?_) (a' := ?_) #[true, true, true, true, true, true, true, true, false, false, true, true, false, false, true, true, false, false, true, true, false, false, true, false, false, false] rfl rfl (take_ofW HT_.out HW_.out (by kernel_rfl)) (fun _ _ _ h => h) (Or.inl ⟨by rfl, ?_⟩) hHeld ?_ ?_
                        rotate_left
                        · rintro w' ⟨s0, s1, s2, s3, s4, s5⟩
                          go_simp
                          with_reducible rfl
                        rotate_left
                        · simp only [Act.put, List.setIfInBounds_toArray, List.set_cons_zero, List.set_cons_succ, i64_w, i32_w]
                          rfl
                        refine take_ (i := 8) (N := some 38) (v := ?_) (a' := ?_) #[true, true, true, true, true, true, true, true, true, false, true, true, false, false, true, true, false, false, true, true, false, false, true, false, false, false] rfl rfl (take_ofW HT_.out HW_.out (by kernel_rfl)) (fun _ _ _ h => h) (Or.inl ⟨by rfl, ?_⟩) hHeld ?_ ?_
                        rotate_left
                        · rintro w' ⟨s0, s1, s2, s3, s4, s5⟩
                          go_simp
                          with_reducible rfl
                        rotate_left
                        · simp only [Act.put, List.setIfInBounds_toArray, List.set_cons_zero, List.set_cons_succ, i64_w, i32_w]
                          rfl
                        refine pure_ (i := 9) (N := some 39) (v := ?_) (a' := ?_) #[true, true, true, true, true, true, true, true, true, true, true, true, false, false, true, true, false, false, true, true, false, false, true, false, false, false] rfl rfl (any_of HT_.out (by kernel_rfl)) (fun _ _ _ h => h) (Or.inl ⟨by rfl, ?_⟩) ?_ ?_
                        rotate_left
                        · intro w'
                          go_simp
                          with_reducible rfl
                        rotate_left
                        · simp only [Act.put, List.setIfInBounds_toArray, List.set_cons_zero, List.set_cons_succ, i64_w, i32_w]
                          rfl
                        refine take_ (i := 12) (N := some 42) (v := ?_) (a' := ?_) #[true, true, true, true, true, true, true, true, true, true, true, true, true, false, true, true, false, false, true, true, false, false, true, false, false, false] rfl rfl (take_ofW HT_.out HW_.out (by kernel_rfl)) (fun _ _ _ h => h) (Or.inl ⟨by rfl, ?_⟩) hHeld ?_ ?_
                        rotate_left
                        · rintro w' ⟨s0, s1, s2, s3, s4, s5⟩
                          go_simp
                          with_reducible rfl
                        rotate_left
                        · simp only [Act.put, List.setIfInBounds_toArray, List.set_cons_zero, List.set_cons_succ, i64_w, i32_w]
                          rfl
                        refine pure_ (i := 13) (N := some 43) (v := ?_) (a' := ?_) #[true, true, true, true, true, true, true, true, true, true, true, true, true, true, true, true, false, false, true, true, false, false, true, false, false, false] rfl rfl (any_of HT_.out (by kernel_rfl)) (fun _ _ _ h => h) (Or.inl ⟨by rfl, ?_⟩) ?_ ?_
                        rotate_left
                        · intro w'
                          go_simp
                          with_reducible rfl
                        rotate_left
                        · simp only [Act.put, List.setIfInBounds_toArray, List.set_cons_zero, List.set_cons_succ, i64_w, i32_w]
                          rfl
                        refine take_ (i := 16) (N := some 46) (v := ?_) (a' := ?_) #[true, true, true, true, true, true, true, true, true, true, true, true, true, true, true, true, true, false, true, true, false, false, true, false, false, false] rfl rfl (take_ofW HT_.out HW_.out (by kernel_rfl)) (fun _ _ _ h => h) (Or.inl ⟨by rfl, ?_⟩) hHeld ?_ ?_
                        rotate_left
                        · rintro w' ⟨s0, s1, s2, s3, s4, s5⟩
                          go_simp
                          with_reducible rfl
                        rotate_left
                        · simp only [Act.put, List.setIfInBounds_toArray, List.set_cons_zero, List.set_cons_succ, i64_w, i32_w]
                          rfl
                        refine pure_ (i := 17) (N := some 47) (v := ?_) (a' := ?_) #[true, true, true, true, true, true, true, true, true, true, true, true, true, true, true, true, true, true, true, true, false, false, true, false, false, false] rfl rfl (any_of HT_.out (by kernel_rfl)) (fun _ _ _ h => h) (Or.inl ⟨by rfl, ?_⟩) ?_ ?_
                        rotate_left
                        · intro w'
                          go_simp
                          with_reducible rfl
                        rotate_left
                        · simp only [Act.put, List.setIfInBounds_toArray, List.set_cons_zero, List.set_cons_succ, i64_w, i32_w]
                          rfl
                        refine take_ (i := 20) (N := some 50) (v := ?_) (a' := ?_) #[true, true, true, true, true, true, true, true, true, true, true, true, true, true, true, true, true, true, true, true, true, false, true, false, false, false] rfl rfl (take_ofW HT_.out HW_.out (by kernel_rfl)) (fun _ _ _ h => h) (Or.inl ⟨by rfl, ?_⟩) hHeld ?_ ?_
                        rotate_left
                        · rintro w' ⟨s0, s1, s2, s3, s4, s5⟩
                          go_simp
                          with_reducible rfl
                        rotate_left
                        · simp only [Act.put, List.setIfInBounds_toArray, List.set_cons_zero, List.set_cons_succ, i64_w, i32_w]
                          rfl
                        refine pure_ (i := 21) (N := some 51) (v := ?_) (a' := ?_) #[true, true, true, true, true, true, true, true, true, true, true, true, true, true, true, true, true, true, true, true, true, true, true, false, false, false] rfl rfl (any_of HT_.out (by kernel_rfl)) (fun _ _ _ h => h) (Or.inl ⟨by rfl, ?_⟩) ?_ ?_
                        rotate_left
                        · intro w'
                          go_simp
                          with_reducible rfl
                        rotate_left
                        · simp only [Act.put, List.setIfInBounds_toArray, List.set_cons_zero, List.set_cons_succ, i64_w, i32_w]
                          rfl
                        refine pure_ (i := 23) (N := some 53) (v := ?_) (a' := ?_) #[true, true, true, true, true, true, true, true, true, true, true, true, true, true, true, true, true, true, true, true, true, true, true, true, false, false] rfl rfl (any_of HT_.out (by kernel_rfl)) (fun _ _ _ h => h) (Or.inl ⟨by rfl, ?_⟩) ?_ ?_
                        rotate_left
                        · intro w'
                          go_simp
                          with_reducible rfl
                        rotate_left
                        · simp only [Act.put, List.setIfInBounds_toArray, List.set_cons_zero, List.set_cons_succ, i64_w, i32_w]
                          rfl
                        refine one_ (i := 24) (N := some 7) #[true, true, true, true, true, true, true, true, true, true, true, true, true, true, true, true, true, true, true, true, true, true, true, true, true, false] rfl rfl (one_of HT_.out (by kernel_rfl)) (by decide) (fun K hK => ?_)
                        refine box_step ?hg (N := 7) ?hd (cs := #[.int .u64 0, .int .u64 0, .int .u8 0, .bool false, .int .u16 0, .int .u16 0, .string (⟨#[]⟩ : ByteArray)]) (t := 27) ?hr ?_; (case hd => rfl); (case hg => rfl); (case hr => first | (go_simp; done) | (go_simp; rfl))
                        intro gb158 hg w24 hbox hb
                        have HS0_ := (hb.cell (World.block_lt_of_cell? _ _ (hHeld.1))).trans (hHeld.1)
                        have HS1_ := (hb.cell (World.block_lt_of_cell? _ _ (hHeld.2.1))).trans (hHeld.2.1)
                        have HS2_ := (hb.cell (World.block_lt_of_cell? _ _ (hHeld.2.2.1))).trans (hHeld.2.2.1)
                        have HS3_ := (hb.cell (World.block_lt_of_cell? _ _ (hHeld.2.2.2.1))).trans (hHeld.2.2.2.1)
                        have HS4_ := (hb.cell (World.block_lt_of_cell? _ _ (hHeld.2.2.2.2.1))).trans (hHeld.2.2.2.2.1)
                        have HS5_ := (hb.cell (World.block_lt_of_cell? _ _ (hHeld.2.2.2.2.2))).trans (hHeld.2.2.2.2.2)
                        have n0_ := Aside0.mk (Kd.R_below (by (with_reducible repeat (first | apply Kd.R_alloc | apply Kd.R_drewN | apply Kd.R_drew)); exact HO145.out) hb)
                        have n1_ := Aside0.mk (Kd.R_below (by (with_reducible repeat (first | apply Kd.R_alloc | apply Kd.R_drewN | apply Kd.R_drew)); exact HO150.out) hb)
                        have n2_ := Aside0.mk (blk_below (g := gb142) (o := .cells #[.int .u64 0, .int .u64 0, .int .u8 0, .bool false, .int .u16 0, .int .u16 0, .string (⟨#[]⟩ : ByteArray)] 27 (0, 0)) (by (with_reducible repeat (first | refine blk_drewN ?_ _ | refine blk_drew ?_ | refine blk_alloc ?_ _)); exact BK142.out) hb)
                        have n3_ := Aside0.mk (below_step (by repeat (first | (with_reducible first | exact HB.out | apply below_alloc | apply pw_below_drewN | apply below_drew1 | refine below_set ?_ GE142.out) | exact HB.out)) hb)
                        have n4_ := Aside0.mk (hbox)
                        have n5_ := Aside0.mk ((by rw [hg]; exact (below_size (by repeat (first | (with_reducible first | exact HB.out | apply below_alloc | apply pw_below_drewN | apply below_drew1 | refine below_set ?_ GE142.out) | exact HB.out))) : w.heap.size ≤ gb158))
                        have n6_ := Aside0.mk ((by rw [hg]; exact (below_size (by repeat (first | (with_reducible first | exact HB.out | apply below_alloc | apply pw_below_drewN | apply below_drew1 | refine below_set ?_ GE142.out) | exact HB.out))) : w.heap.size ≤ gb158))
                        have n7_ := Aside0.mk ((by rw [hg]; exact Nat.ne_of_lt (blk_lt (g := gb142) (o := .cells #[.int .u64 0, .int .u64 0, .int .u8 0, .bool false, .int .u16 0, .int .u16 0, .string (⟨#[]⟩ : ByteArray)] 27 (0, 0)) (by (with_reducible repeat (first | refine blk_drewN ?_ _ | refine blk_drew ?_ | refine blk_alloc ?_ _)); exact BK142.out)) : gb142 ≠ gb158))
                        have n8_ := Aside0.mk ((by rw [hg]; exact Nat.ne_of_gt (blk_lt (g := gb142) (o := .cells #[.int .u64 0, .int .u64 0, .int .u8 0, .bool false, .int .u16 0, .int .u16 0, .string (⟨#[]⟩ : ByteArray)] 27 (0, 0)) (by (with_reducible repeat (first | refine blk_drewN ?_ _ | refine blk_drew ?_ | refine blk_alloc ?_ _)); exact BK142.out)) : gb158 ≠ gb142))
                        clear HO145
                        clear HO150
                        clear BK142
                        clear HB
                        have HO145 := n0_
                        have HO150 := n1_
                        have BK142 := n2_
                        have HB := n3_
                        have BK158 := n4_
                        have GW158 := n5_
                        have GE158 := n6_
                        have NB142_158 := n7_
                        have NB158_142 := n8_
                        clear n0_ n1_ n2_ n3_ n4_ n5_ n6_ n7_ n8_
                        clear hb hbox hg
                        refine hK.out _ _ ⟨HS0_, HS1_, HS2_, HS3_, HS4_, HS5_⟩ (fun hHeld => ?_)
                        clear hK K
                        refine norm_ (a' := ?_) ?_ ?_
                        rotate_left
                        · show Act.put _ (some 7) _ = _
                          simp only [Act.put, List.setIfInBounds_toArray, List.set_cons_zero, List.set_cons_succ, i64_w, i32_w]
                          rfl
                        refine one_ (i := 25) (N := none) #[true, true, true, true, true, true, true, true, true, true, true, true, true, true, true, true, true, true, true, true, true, true, true, true, true, true] rfl rfl (one_of HT_.out (by kernel_rfl)) (by decide) (fun K hK => ?_)
                        have hs25 : w24.cell? ⟨gb158, 0, none⟩ = some (.int .u64 0) := (blk_cell BK158.out 0).trans rfl
                        have hfs25 := blk_frozen BK158.out 0
                        have hns25_0 := NB142_158.out
                        have hms25_0 := NB158_142.out
                        have hs26 : w24.cell? ⟨gb158, 1, none⟩ = some (.int .u64 0) := (blk_cell BK158.out 1).trans rfl
                        have hfs26 := blk_frozen BK158.out 1
                        have hns26_0 := NB142_158.out
                        have hms26_0 := NB158_142.out
                        have hs27 : w24.cell? ⟨gb158, 2, none⟩ = some (.int .u8 0) := (blk_cell BK158.out 2).trans rfl
                        have hfs27 := blk_frozen BK158.out 2
                        have hns27_0 := NB142_158.out
                        have hms27_0 := NB158_142.out
                        have hs28 : w24.cell? ⟨gb158, 3, none⟩ = some (.bool false) := (blk_cell BK158.out 3).trans rfl
                        have hfs28 := blk_frozen BK158.out 3
                        have hns28_0 := NB142_158.out
                        have hms28_0 := NB158_142.out
                        have hs29 : w24.cell? ⟨gb158, 4, none⟩ = some (.int .u16 0) := (blk_cell BK158.out 4).trans rfl
                        have hfs29 := blk_frozen BK158.out 4
                        have hns29_0 := NB142_158.out
                        have hms29_0 := NB158_142.out
                        have hs30 : w24.cell? ⟨gb158, 5, none⟩ = some (.int .u16 0) := (blk_cell BK158.out 5).trans rfl
                        have hfs30 := blk_frozen BK158.out 5
                        have hns30_0 := NB142_158.out
                        have hms30_0 := NB158_142.out
                        have hs31 : w24.cell? ⟨gb158, 6, none⟩ = some (.string (⟨#[]⟩ : ByteArray)) := (blk_cell BK158.out 6).trans rfl
                        have hfs31 := blk_frozen BK158.out 6
                        have hns31_0 := NB142_158.out
                        have hms31_0 := NB158_142.out
                        refine skip_ (w1 := ?_) (by rfl) rfl ?_ ?_
                        rotate_left
                        · go_simp
                          rfl
                        refine hK.out _ _ ⟨?hh0_, ?hh1_, ?hh2_, ?hh3_, ?hh4_, ?hh5_⟩ (fun hHeld => ?_)
                        case hh0_ =>
                          have hfF_ : ∀ (W_ : World) (a_ : Addr) (i_ : Nat) (u_ : Value), a_.block ≠ gb158 → (W_.setCell ⟨gb158, i_, none⟩ u_).cell? a_ = W_.cell? a_ := fun W_ a_ i_ u_ h_ => cell_far (p := ⟨gb158, i_, none⟩) h_ u_
                          have hqF_ := (Kd.own_blk (Kd.R_ne HO150.out BK158.out (by decide)))
                          simp only [hfF_, ne_eq, hqF_, not_false_eq_true]
                          exact hHeld.1
                        case hh1_ =>
                          have hfF_ : ∀ (W_ : World) (a_ : Addr) (i_ : Nat) (u_ : Value), a_.block ≠ gb158 → (W_.setCell ⟨gb158, i_, none⟩ u_).cell? a_ = W_.cell? a_ := fun W_ a_ i_ u_ h_ => cell_far (p := ⟨gb158, i_, none⟩) h_ u_
                          have hqF_ := (Kd.own_blk (Kd.R_ne HO150.out BK158.out (by decide)))
                          simp only [hfF_, ne_eq, hqF_, not_false_eq_true]
                          exact hHeld.2.1
                        case hh2_ =>
                          have hfF_ : ∀ (W_ : World) (a_ : Addr) (i_ : Nat) (u_ : Value), a_.block ≠ gb158 → (W_.setCell ⟨gb158, i_, none⟩ u_).cell? a_ = W_.cell? a_ := fun W_ a_ i_ u_ h_ => cell_far (p := ⟨gb158, i_, none⟩) h_ u_
                          have hqF_ := (Kd.own_blk (Kd.R_ne HO150.out BK158.out (by decide)))
                          simp only [hfF_, ne_eq, hqF_, not_false_eq_true]
                          exact hHeld.2.2.1
                        case hh3_ =>
                          have hfF_ : ∀ (W_ : World) (a_ : Addr) (i_ : Nat) (u_ : Value), a_.block ≠ gb158 → (W_.setCell ⟨gb158, i_, none⟩ u_).cell? a_ = W_.cell? a_ := fun W_ a_ i_ u_ h_ => cell_far (p := ⟨gb158, i_, none⟩) h_ u_
                          have hqF_ := (Kd.own_blk (Kd.R_ne HO150.out BK158.out (by decide)))
                          simp only [hfF_, ne_eq, hqF_, not_false_eq_true]
                          exact hHeld.2.2.2.1
                        case hh4_ =>
                          have hfF_ : ∀ (W_ : World) (a_ : Addr) (i_ : Nat) (u_ : Value), a_.block ≠ gb158 → (W_.setCell ⟨gb158, i_, none⟩ u_).cell? a_ = W_.cell? a_ := fun W_ a_ i_ u_ h_ => cell_far (p := ⟨gb158, i_, none⟩) h_ u_
                          have hqF_ := (Kd.own_blk (Kd.R_ne HO150.out BK158.out (by decide)))
                          simp only [hfF_, ne_eq, hqF_, not_false_eq_true]
                          exact hHeld.2.2.2.2.1
                        case hh5_ =>
                          have hfF_ : ∀ (W_ : World) (a_ : Addr) (i_ : Nat) (u_ : Value), a_.block ≠ gb158 → (W_.setCell ⟨gb158, i_, none⟩ u_).cell? a_ = W_.cell? a_ := fun W_ a_ i_ u_ h_ => cell_far (p := ⟨gb158, i_, none⟩) h_ u_
                          have hqF_ := (Kd.own_blk (Kd.R_ne HO150.out BK158.out (by decide)))
                          simp only [hfF_, ne_eq, hqF_, not_false_eq_true]
                          exact hHeld.2.2.2.2.2
                        clear hK K
                        refine done_ (done_of HT_.out (by kernel_rfl)) ?_
                        have hnb32 := NB158_142.out
                        have hnc32 := NB142_158.out
                        have hcz33_0 : w24.cell? ⟨gb158, 0, none⟩ = some (.int .u64 0) := (blk_cell BK158.out 0).trans rfl
                        have hcz33_1 : w24.cell? ⟨gb158, 1, none⟩ = some (.int .u64 0) := (blk_cell BK158.out 1).trans rfl
                        have hcz33_2 : w24.cell? ⟨gb158, 2, none⟩ = some (.int .u8 0) := (blk_cell BK158.out 2).trans rfl
                        have hcz33_3 : w24.cell? ⟨gb158, 3, none⟩ = some (.bool false) := (blk_cell BK158.out 3).trans rfl
                        have hcz33_4 : w24.cell? ⟨gb158, 4, none⟩ = some (.int .u16 0) := (blk_cell BK158.out 4).trans rfl
                        have hcz33_5 : w24.cell? ⟨gb158, 5, none⟩ = some (.int .u16 0) := (blk_cell BK158.out 5).trans rfl
                        have hcz33_6 : w24.cell? ⟨gb158, 6, none⟩ = some (.string (⟨#[]⟩ : ByteArray)) := (blk_cell BK158.out 6).trans rfl
                        have hfz33_0 := blk_frozen BK158.out 0
                        have hfz33_1 := blk_frozen BK158.out 1
                        have hfz33_2 := blk_frozen BK158.out 2
                        have hfz33_3 := blk_frozen BK158.out 3
                        have hfz33_4 := blk_frozen BK158.out 4
                        have hfz33_5 := blk_frozen BK158.out 5
                        have hfz33_6 := blk_frozen BK158.out 6
                        try go_wp2_with (first | ((with_reducible refine gate_callee (f := 31) rfl ?_); refine goesL_ (some 55) rfl rfl Try.func31 (by kernel_rfl) rfl #[.agg #[.int .u64 (rd t146 0), .int .u64 (rd t146 1), .int .u8 ((rd t146 3) % 256), .bool ((rd t146 4) == 1), .int .u16 (IntKind.u16.wrap (rd t146 5)), .int .u16 (IntKind.u16.wrap (rd t146 6)), .string t147]] rfl (by (try simp only [List.map_toArray, List.map_cons, List.map_nil]); first | done | rfl | (simp only [List.length_drop, List.length_take]; rfl)) ?_; (with_reducible refine (tagged_Frame_wrong.calls k (rd t146 0) (rd t146 1) ((rd t146 3) % 256) ((rd t146 4) == 1) (IntKind.u16.wrap (rd t146 5)) (IntKind.u16.wrap (rd t146 6)) t147 t159 _ A15.out).mono ?_); rintro e w34 ⟨rfl, hb⟩; refine ⟨_, rfl, ?_⟩; have n0_ := Aside0.mk (Kd.R_below (by (with_reducible repeat (first | apply Kd.R_alloc | apply Kd.R_drewN | apply Kd.R_drew)); exact (Kd.R_mono (Kd.R_far (p := ⟨gb158, 6, none⟩) (Kd.R_far (p := ⟨gb158, 5, none⟩) (Kd.R_far (p := ⟨gb158, 4, none⟩) (Kd.R_far (p := ⟨gb158, 3, none⟩) (Kd.R_far (p := ⟨gb158, 2, none⟩) (Kd.R_far (p := ⟨gb158, 1, none⟩) (Kd.R_far (p := ⟨gb158, 0, none⟩) (Kd.R_types HO145.out BK158.out (by decide)) (fun _ hk => hk.2) (.int .u64 (rd t146 0))) (fun _ hk => hk.2) (.int .u64 (rd t146 1))) (fun _ hk => hk.2) (.int .u8 ((rd t146 3) % 256))) (fun _ hk => hk.2) (.bool ((rd t146 4) == 1))) (fun _ hk => hk.2) (.int .u16 (IntKind.u16.wrap (rd t146 5)))) (fun _ hk => hk.2) (.int .u16 (IntKind.u16.wrap (rd t146 6)))) (fun _ hk => hk.2) (.string t147)) (fun _ h_ => h_.1))) hb); have n1_ := Aside0.mk (Kd.R_below (by (with_reducible repeat (first | apply Kd.R_alloc | apply Kd.R_drewN | apply Kd.R_drew)); exact (Kd.R_mono (Kd.R_far (p := ⟨gb158, 6, none⟩) (Kd.R_far (p := ⟨gb158, 5, none⟩) (Kd.R_far (p := ⟨gb158, 4, none⟩) (Kd.R_far (p := ⟨gb158, 3, none⟩) (Kd.R_far (p := ⟨gb158, 2, none⟩) (Kd.R_far (p := ⟨gb158, 1, none⟩) (Kd.R_far (p := ⟨gb158, 0, none⟩) (Kd.R_types HO150.out BK158.out (by decide)) (fun _ hk => hk.2) (.int .u64 (rd t146 0))) (fun _ hk => hk.2) (.int .u64 (rd t146 1))) (fun _ hk => hk.2) (.int .u8 ((rd t146 3) % 256))) (fun _ hk => hk.2) (.bool ((rd t146 4) == 1))) (fun _ hk => hk.2) (.int .u16 (IntKind.u16.wrap (rd t146 5)))) (fun _ hk => hk.2) (.int .u16 (IntKind.u16.wrap (rd t146 6)))) (fun _ hk => hk.2) (.string t147)) (fun _ h_ => h_.1))) hb); have n2_ := Aside0.mk (blk_below (g := gb142) (o := .cells #[.int .u64 0, .int .u64 0, .int .u8 0, .bool false, .int .u16 0, .int .u16 0, .string (⟨#[]⟩ : ByteArray)] 27 (0, 0)) (by (with_reducible repeat (first | refine blk_drewN ?_ _ | refine blk_drew ?_ | refine blk_alloc ?_ _)); refine blk_far ?_ NB142_158.out _; (with_reducible repeat (first | refine blk_drewN ?_ _ | refine blk_drew ?_ | refine blk_alloc ?_ _)); refine blk_far ?_ NB142_158.out _; (with_reducible repeat (first | refine blk_drewN ?_ _ | refine blk_drew ?_ | refine blk_alloc ?_ _)); refine blk_far ?_ NB142_158.out _; (with_reducible repeat (first | refine blk_drewN ?_ _ | refine blk_drew ?_ | refine blk_alloc ?_ _)); refine blk_far ?_ NB142_158.out _; (with_reducible repeat (first | refine blk_drewN ?_ _ | refine blk_drew ?_ | refine blk_alloc ?_ _)); refine blk_far ?_ NB142_158.out _; (with_reducible repeat (first | refine blk_drewN ?_ _ | refine blk_drew ?_ | refine blk_alloc ?_ _)); refine blk_far ?_ NB142_158.out _; (with_reducible repeat (first | refine blk_drewN ?_ _ | refine blk_drew ?_ | refine blk_alloc ?_ _)); refine blk_far ?_ NB142_158.out _; (with_reducible repeat (first | refine blk_drewN ?_ _ | refine blk_drew ?_ | refine blk_alloc ?_ _)); exact BK142.out) hb); have n3_ := Aside0.mk (blk_below (g := gb158) (o := .cells #[.int .u64 (rd t146 0), .int .u64 (rd t146 1), .int .u8 ((rd t146 3) % 256), .bool ((rd t146 4) == 1), .int .u16 (IntKind.u16.wrap (rd t146 5)), .int .u16 (IntKind.u16.wrap (rd t146 6)), .string t147] 27 (0, 0)) (by (with_reducible repeat (first | refine blk_drewN ?_ _ | refine blk_drew ?_ | refine blk_alloc ?_ _)); refine blk_put (cs := #[.int .u64 (rd t146 0), .int .u64 (rd t146 1), .int .u8 ((rd t146 3) % 256), .bool ((rd t146 4) == 1), .int .u16 (IntKind.u16.wrap (rd t146 5)), .int .u16 (IntKind.u16.wrap (rd t146 6)), .string (⟨#[]⟩ : ByteArray)]) ?_ 6 _ rfl; (with_reducible repeat (first | refine blk_drewN ?_ _ | refine blk_drew ?_ | refine blk_alloc ?_ _)); refine blk_put (cs := #[.int .u64 (rd t146 0), .int .u64 (rd t146 1), .int .u8 ((rd t146 3) % 256), .bool ((rd t146 4) == 1), .int .u16 (IntKind.u16.wrap (rd t146 5)), .int .u16 0, .string (⟨#[]⟩ : ByteArray)]) ?_ 5 _ rfl; (with_reducible repeat (first | refine blk_drewN ?_ _ | refine blk_drew ?_ | refine blk_alloc ?_ _)); refine blk_put (cs := #[.int .u64 (rd t146 0), .int .u64 (rd t146 1), .int .u8 ((rd t146 3) % 256), .bool ((rd t146 4) == 1), .int .u16 0, .int .u16 0, .string (⟨#[]⟩ : ByteArray)]) ?_ 4 _ rfl; (with_reducible repeat (first | refine blk_drewN ?_ _ | refine blk_drew ?_ | refine blk_alloc ?_ _)); refine blk_put (cs := #[.int .u64 (rd t146 0), .int .u64 (rd t146 1), .int .u8 ((rd t146 3) % 256), .bool false, .int .u16 0, .int .u16 0, .string (⟨#[]⟩ : ByteArray)]) ?_ 3 _ rfl; (with_reducible repeat (first | refine blk_drewN ?_ _ | refine blk_drew ?_ | refine blk_alloc ?_ _)); refine blk_put (cs := #[.int .u64 (rd t146 0), .int .u64 (rd t146 1), .int .u8 0, .bool false, .int .u16 0, .int .u16 0, .string (⟨#[]⟩ : ByteArray)]) ?_ 2 _ rfl; (with_reducible repeat (first | refine blk_drewN ?_ _ | refine blk_drew ?_ | refine blk_alloc ?_ _)); refine blk_put (cs := #[.int .u64 (rd t146 0), .int .u64 0, .int .u8 0, .bool false, .int .u16 0, .int .u16 0, .string (⟨#[]⟩ : ByteArray)]) ?_ 1 _ rfl; (with_reducible repeat (first | refine blk_drewN ?_ _ | refine blk_drew ?_ | refine blk_alloc ?_ _)); refine blk_put (cs := #[.int .u64 0, .int .u64 0, .int .u8 0, .bool false, .int .u16 0, .int .u16 0, .string (⟨#[]⟩ : ByteArray)]) ?_ 0 _ rfl; (with_reducible repeat (first | refine blk_drewN ?_ _ | refine blk_drew ?_ | refine blk_alloc ?_ _)); exact BK158.out) hb); have n4_ := Aside0.mk (below_step (by repeat (first | (with_reducible first | exact HB.out | apply below_alloc | apply pw_below_drewN | apply below_drew1 | refine below_set ?_ GE142.out | refine below_set ?_ GE158.out) | exact HB.out)) hb); clear HO145; clear HO150; clear BK142; clear BK158; clear HB; have HO145 := n0_; have HO150 := n1_; have BK142 := n2_; have BK158 := n3_; have HB := n4_; clear n0_ n1_ n2_ n3_ n4_; (try clear hb); (try clear hb2); (try clear hk); (try clear hi); have hcz35_0 : w34.cell? ⟨gb158, 0, none⟩ = some (.int .u64 (rd t146 0)) := (blk_cell BK158.out 0).trans rfl; have hcz35_1 : w34.cell? ⟨gb158, 1, none⟩ = some (.int .u64 (rd t146 1)) := (blk_cell BK158.out 1).trans rfl; have hcz35_2 : w34.cell? ⟨gb158, 2, none⟩ = some (.int .u8 ((rd t146 3) % 256)) := (blk_cell BK158.out 2).trans rfl; have hcz35_3 : w34.cell? ⟨gb158, 3, none⟩ = some (.bool ((rd t146 4) == 1)) := (blk_cell BK158.out 3).trans rfl; have hcz35_4 : w34.cell? ⟨gb158, 4, none⟩ = some (.int .u16 (IntKind.u16.wrap (rd t146 5))) := (blk_cell BK158.out 4).trans rfl; have hcz35_5 : w34.cell? ⟨gb158, 5, none⟩ = some (.int .u16 (IntKind.u16.wrap (rd t146 6))) := (blk_cell BK158.out 5).trans rfl; have hcz35_6 : w34.cell? ⟨gb158, 6, none⟩ = some (.string t147) := (blk_cell BK158.out 6).trans rfl; have hfz35_0 := blk_frozen BK158.out 0; have hfz35_1 := blk_frozen BK158.out 1; have hfz35_2 := blk_frozen BK158.out 2; have hfz35_3 := blk_frozen BK158.out 3; have hfz35_4 := blk_frozen BK158.out 4; have hfz35_5 := blk_frozen BK158.out 5; have hfz35_6 := blk_frozen BK158.out 6; have hcz36_0 : w34.cell? ⟨gb142, 0, none⟩ = some (.int .u64 0) := (blk_cell BK142.out 0).trans rfl; have hcz36_1 : w34.cell? ⟨gb142, 1, none⟩ = some (.int .u64 0) := (blk_cell BK142.out 1).trans rfl; have hcz36_2 : w34.cell? ⟨gb142, 2, none⟩ = some (.int .u8 0) := (blk_cell BK142.out 2).trans rfl; have hcz36_3 : w34.cell? ⟨gb142, 3, none⟩ = some (.bool false) := (blk_cell BK142.out 3).trans rfl; have hcz36_4 : w34.cell? ⟨gb142, 4, none⟩ = some (.int .u16 0) := (blk_cell BK142.out 4).trans rfl; have hcz36_5 : w34.cell? ⟨gb142, 5, none⟩ = some (.int .u16 0) := (blk_cell BK142.out 5).trans rfl; have hcz36_6 : w34.cell? ⟨gb142, 6, none⟩ = some (.string (⟨#[]⟩ : ByteArray)) := (blk_cell BK142.out 6).trans rfl; have hfz36_0 := blk_frozen BK142.out 0; have hfz36_1 := blk_frozen BK142.out 1; have hfz36_2 := blk_frozen BK142.out 2; have hfz36_3 := blk_frozen BK142.out 3; have hfz36_4 := blk_frozen BK142.out 4; have hfz36_5 := blk_frozen BK142.out 5; have hfz36_6 := blk_frozen BK142.out 6))
                        refine bodyPost_ret (results_ct rfl _ _ gb142 27 #[.int .u64 (rd t146 0), .int .u64 (rd t146 1), .int .u8 ((rd t146 3) % 256), .bool ((rd t146 4) == 1), .int .u16 (IntKind.u16.wrap (rd t146 5)), .int .u16 (IntKind.u16.wrap (rd t146 6)), .string t147] (0, 0) _ rfl (by (with_reducible repeat (first | refine blk_drewN ?_ _ | refine blk_drew ?_ | refine blk_alloc ?_ _)); refine blk_put (cs := #[.int .u64 (rd t146 0), .int .u64 (rd t146 1), .int .u8 ((rd t146 3) % 256), .bool ((rd t146 4) == 1), .int .u16 (IntKind.u16.wrap (rd t146 5)), .int .u16 (IntKind.u16.wrap (rd t146 6)), .string (⟨#[]⟩ : ByteArray)]) ?_ 6 _ rfl; (with_reducible repeat (first | refine blk_drewN ?_ _ | refine blk_drew ?_ | refine blk_alloc ?_ _)); refine blk_put (cs := #[.int .u64 (rd t146 0), .int .u64 (rd t146 1), .int .u8 ((rd t146 3) % 256), .bool ((rd t146 4) == 1), .int .u16 (IntKind.u16.wrap (rd t146 5)), .int .u16 0, .string (⟨#[]⟩ : ByteArray)]) ?_ 5 _ rfl; (with_reducible repeat (first | refine blk_drewN ?_ _ | refine blk_drew ?_ | refine blk_alloc ?_ _)); refine blk_put (cs := #[.int .u64 (rd t146 0), .int .u64 (rd t146 1), .int .u8 ((rd t146 3) % 256), .bool ((rd t146 4) == 1), .int .u16 0, .int .u16 0, .string (⟨#[]⟩ : ByteArray)]) ?_ 4 _ rfl; (with_reducible repeat (first | refine blk_drewN ?_ _ | refine blk_drew ?_ | refine blk_alloc ?_ _)); refine blk_put (cs := #[.int .u64 (rd t146 0), .int .u64 (rd t146 1), .int .u8 ((rd t146 3) % 256), .bool false, .int .u16 0, .int .u16 0, .string (⟨#[]⟩ : ByteArray)]) ?_ 3 _ rfl; (with_reducible repeat (first | refine blk_drewN ?_ _ | refine blk_drew ?_ | refine blk_alloc ?_ _)); refine blk_put (cs := #[.int .u64 (rd t146 0), .int .u64 (rd t146 1), .int .u8 0, .bool false, .int .u16 0, .int .u16 0, .string (⟨#[]⟩ : ByteArray)]) ?_ 2 _ rfl; (with_reducible repeat (first | refine blk_drewN ?_ _ | refine blk_drew ?_ | refine blk_alloc ?_ _)); refine blk_put (cs := #[.int .u64 (rd t146 0), .int .u64 0, .int .u8 0, .bool false, .int .u16 0, .int .u16 0, .string (⟨#[]⟩ : ByteArray)]) ?_ 1 _ rfl; (with_reducible repeat (first | refine blk_drewN ?_ _ | refine blk_drew ?_ | refine blk_alloc ?_ _)); refine blk_put (cs := #[.int .u64 0, .int .u64 0, .int .u8 0, .bool false, .int .u16 0, .int .u16 0, .string (⟨#[]⟩ : ByteArray)]) ?_ 0 _ rfl; (with_reducible repeat (first | refine blk_drewN ?_ _ | refine blk_drew ?_ | refine blk_alloc ?_ _)); exact BK142.out) Try.underlying27 rfl (by kernel_rfl)) rfl ?_
                        exact ⟨by first | rfl | (simp [errW_none, errW_some] <;> rfl) | (simp [*, errW_none, errW_some] <;> rfl), by repeat (first | (with_reducible first | exact HB.out | apply below_alloc | apply pw_below_drewN | apply below_drew1 | refine below_set ?_ GE142.out | refine below_set ?_ GE158.out) | exact HB.out)⟩
                      · rw [if_neg c16] at H
                        have c16b0 : (t159 == 0) = false := beq_eq_false_iff_ne.mpr c16
                        have c16b1 : (t159 != 0) = true := bne_iff_ne.mpr c16
                        simp only [Option.some.injEq, Prod.mk.injEq] at H
                        obtain ⟨rfl, rfl, rfl, rfl, rfl, rfl, rfl, rfl⟩ := H
                        go_enter Try.func10, Try.ntmps10
                        try go_wp2_with (first | ((with_reducible refine gate_dst (N := 2) rfl ?_); refine box_event ?hg (N := 2) ?hd (cs := #[.int .u64 0, .int .u64 0, .int .u8 0, .bool false, .int .u16 0, .int .u16 0, .string (⟨#[]⟩ : ByteArray)]) (t := 27) ?hr ?_; (case hd => rfl); (case hg => rfl); (case hr => first | (go_simp; done) | (go_simp; rfl)); intro gb142 hg w37 hbox hb; have n0_ := Aside0.mk (below_step (by repeat (first | (with_reducible first | exact HB.out | apply below_alloc | apply pw_below_drewN | apply below_drew1) | exact HB.out)) hb); have n1_ := Aside0.mk (hbox); have n2_ := Aside0.mk ((by rw [hg]; exact (below_size (by repeat (first | (with_reducible first | exact HB.out | apply below_alloc | apply pw_below_drewN | apply below_drew1) | exact HB.out))) : w.heap.size ≤ gb142)); have n3_ := Aside0.mk ((by rw [hg]; exact (below_size (by repeat (first | (with_reducible first | exact HB.out | apply below_alloc | apply pw_below_drewN | apply below_drew1) | exact HB.out))) : w.heap.size ≤ gb142)); clear HB; have HB := n0_; have BK142 := n1_; have GW142 := n2_; have GE142 := n3_; clear n0_ n1_ n2_ n3_; clear hb hbox hg) | ((with_reducible refine gate_dst (N := 15) rfl ?_); refine Kd.R_lit (Kd.int .i64) _ 3 ?hg (N := 15) ?hd (xs := ([48, 48, 16, 3, 1, 12, 16] : List Int)) (inner := [.int .i64 48, .int .i64 48, .int .i64 16, .int .i64 3, .int .i64 1, .int .i64 12, .int .i64 16]) (ok := fun _ => True) (okp := fun _ => True) ?hr ?hp (fun _ hk => hk) trivial (Below.refl _ _) (Nat.le_refl _) (by simp) ?_; (case hd => rfl); (case hg => rfl); (case hr => first | (go_simp; done) | (go_simp; rfl)); (case hp => exact (Reps.one (show Kd.M (Kd.int .i64) _ _ _ 48 [.int .i64 48] from rfl) (Reps.one (show Kd.M (Kd.int .i64) _ _ _ 48 [.int .i64 48] from rfl) (Reps.one (show Kd.M (Kd.int .i64) _ _ _ 16 [.int .i64 16] from rfl) (Reps.one (show Kd.M (Kd.int .i64) _ _ _ 3 [.int .i64 3] from rfl) (Reps.one (show Kd.M (Kd.int .i64) _ _ _ 1 [.int .i64 1] from rfl) (Reps.one (show Kd.M (Kd.int .i64) _ _ _ 12 [.int .i64 12] from rfl) (Reps.one (show Kd.M (Kd.int .i64) _ _ _ 16 [.int .i64 16] from rfl) (Reps.none _ _))))))))); intro v144 w38 ho39 hb hg_ hnew_; clear hg_ hnew_; (first | rw [← Ny143.out] at ho39 | (simp only [Int.reduceToNat] at ho39; rw [← Ny143.out] at ho39)); have n0_ := Aside0.mk (Kd.R_lower ho39 (below_size (by repeat (first | (with_reducible first | exact HB.out | apply below_alloc | apply pw_below_drewN | apply below_drew1 | refine below_set ?_ GE142.out) | exact HB.out)))); have n1_ := Aside0.mk (blk_below (g := gb142) (o := .cells #[.int .u64 0, .int .u64 0, .int .u8 0, .bool false, .int .u16 0, .int .u16 0, .string (⟨#[]⟩ : ByteArray)] 27 (0, 0)) (by (with_reducible repeat (first | refine blk_drewN ?_ _ | refine blk_drew ?_ | refine blk_alloc ?_ _)); exact BK142.out) hb); have n2_ := Aside0.mk (below_step (by repeat (first | (with_reducible first | exact HB.out | apply below_alloc | apply pw_below_drewN | apply below_drew1 | refine below_set ?_ GE142.out) | exact HB.out)) hb); clear BK142; clear HB; have HO145 := n0_; have BK142 := n1_; have HB := n2_; clear n0_ n1_ n2_; clear hb ho39; obtain ⟨Ao40, co40, eo40⟩ := Kd.R_slice HO145.out; subst eo40) | ((with_reducible refine gate_callee (f := 30) rfl ?_); refine goesL_ (some 16) rfl rfl Try.func30 (by kernel_rfl) rfl #[.string a0, .slice Ao40 y143.length co40] rfl (by (try simp only [List.map_toArray, List.map_cons, List.map_nil]); first | done | rfl | (simp only [List.length_drop, List.length_take]; rfl)) ?_; (with_reducible refine (field_Split.calls k a0 _ _ y143 t146 t147 t148 _ ?side1 ?side2 A5.out).mono ?_); (case side1 => repeat (first | exact (Kd.R_reads' HO145.out).2.2 | (with_reducible refine Kd.C_alloc ?_ _) | (with_reducible refine Kd.C_drewN ?_ _) | (with_reducible refine Kd.C_drew ?_))); (case side2 => exact (Kd.R_reads' HO145.out).2.1); rintro e w41 ⟨v149, rfl, ho0, hb⟩; refine ⟨_, rfl, ?_⟩; have n0_ := Aside0.mk (Kd.R_below (by (with_reducible repeat (first | apply Kd.R_alloc | apply Kd.R_drewN | apply Kd.R_drew)); exact HO145.out) hb); have n1_ := Aside0.mk (Kd.R_lower ho0 (below_size (by repeat (first | (with_reducible first | exact HB.out | apply below_alloc | apply pw_below_drewN | apply below_drew1 | refine below_set ?_ GE142.out) | exact HB.out)))); have n2_ := Aside0.mk (blk_below (g := gb142) (o := .cells #[.int .u64 0, .int .u64 0, .int .u8 0, .bool false, .int .u16 0, .int .u16 0, .string (⟨#[]⟩ : ByteArray)] 27 (0, 0)) (by (with_reducible repeat (first | refine blk_drewN ?_ _ | refine blk_drew ?_ | refine blk_alloc ?_ _)); exact BK142.out) hb); have n3_ := Aside0.mk (below_step (by repeat (first | (with_reducible first | exact HB.out | apply below_alloc | apply pw_below_drewN | apply below_drew1 | refine below_set ?_ GE142.out) | exact HB.out)) hb); clear HO145; clear BK142; clear HB; have HO145 := n0_; have HO150 := n1_; have BK142 := n2_; have HB := n3_; clear n0_ n1_ n2_ n3_; (try clear hb); (try clear hb2); (try clear hk); (try clear hi); (try clear ho0); obtain ⟨Ao42, co42, eo42⟩ := Kd.R_slice HO150.out; subst eo42; have p151 : 0 ≤ (2 : Int) := (by omega); have q151 : 2 < (t146.length : Int) := of_decide_eq_true (by first | (with_reducible assumption) | assumption); obtain ⟨ad151, e151, hx151_0⟩ := Kd.at_int (Kd.R_reads' HO150.out).2.2 2 p151 q151; cases e151; (try simp only [show (2 : Int).toNat = 2 from rfl, Nat.reduceMul, Nat.reduceEqDiff, Go.Addr.add, ↓reduceIte] at hx151_0); have qi151 : (2 < t146.length) = True := eq_true (by omega); (try rw [show ((2 : Int)).toNat = 2 from rfl] at hx151_0); replace p151 := eq_true p151; replace q151 := eq_true q151))
                        have n0_ := Aside0.mk (Kd.R_drew HO145.out)
                        have n1_ := Aside0.mk (Kd.R_drew HO150.out)
                        have n2_ := Aside0.mk (blk_drew BK142.out)
                        have n3_ := Aside0.mk (below_drew1 HB.out)
                        clear HO145
                        clear HO150
                        clear BK142
                        clear HB
                        have HO145 := n0_
                        have HO150 := n1_
                        have BK142 := n2_
                        have HB := n3_
                        clear n0_ n1_ n2_ n3_
                        have p152 : 0 ≤ (0 : Int) := (by omega)
                        have q152 : 0 < (t146.length : Int) := of_decide_eq_true (by first | (with_reducible assumption) | assumption)
                        obtain ⟨ad152, e152, hx152_0⟩ := Kd.at_int (Kd.R_reads' HO150.out).2.2 0 p152 q152
                        obtain rfl : ad151 = ad152 := (by injection e152)
                        have qi152 : (0 < t146.length) = True := eq_true (by omega)
                        (try rw [show ((0 : Int)).toNat = 0 from rfl] at hx152_0)
                        (try rw [Addr.add_zero'] at hx152_0)
                        replace p152 := eq_true p152
                        replace q152 := eq_true q152
                        have p153 : 0 ≤ (1 : Int) := (by omega)
                        have q153 : 1 < (t146.length : Int) := of_decide_eq_true (by first | (with_reducible assumption) | assumption)
                        obtain ⟨ad153, e153, hx153_0⟩ := Kd.at_int (Kd.R_reads' HO150.out).2.2 1 p153 q153
                        obtain rfl : ad151 = ad153 := (by injection e153)
                        (try simp only [show (1 : Int).toNat = 1 from rfl, Nat.reduceMul, Nat.reduceEqDiff, Go.Addr.add, ↓reduceIte] at hx153_0)
                        have qi153 : (1 < t146.length) = True := eq_true (by omega)
                        (try rw [show ((1 : Int)).toNat = 1 from rfl] at hx153_0)
                        replace p153 := eq_true p153
                        replace q153 := eq_true q153
                        have p154 : 0 ≤ (3 : Int) := (by omega)
                        have q154 : 3 < (t146.length : Int) := of_decide_eq_true (by first | (with_reducible assumption) | assumption)
                        obtain ⟨ad154, e154, hx154_0⟩ := Kd.at_int (Kd.R_reads' HO150.out).2.2 3 p154 q154
                        obtain rfl : ad151 = ad154 := (by injection e154)
                        (try simp only [show (3 : Int).toNat = 3 from rfl, Nat.reduceMul, Nat.reduceEqDiff, Go.Addr.add, ↓reduceIte] at hx154_0)
                        have qi154 : (3 < t146.length) = True := eq_true (by omega)
                        (try rw [show ((3 : Int)).toNat = 3 from rfl] at hx154_0)
                        replace p154 := eq_true p154
                        replace q154 := eq_true q154
                        have p155 : 0 ≤ (4 : Int) := (by omega)
                        have q155 : 4 < (t146.length : Int) := of_decide_eq_true (by first | (with_reducible assumption) | assumption)
                        obtain ⟨ad155, e155, hx155_0⟩ := Kd.at_int (Kd.R_reads' HO150.out).2.2 4 p155 q155
                        obtain rfl : ad151 = ad155 := (by injection e155)
                        (try simp only [show (4 : Int).toNat = 4 from rfl, Nat.reduceMul, Nat.reduceEqDiff, Go.Addr.add, ↓reduceIte] at hx155_0)
                        have qi155 : (4 < t146.length) = True := eq_true (by omega)
                        (try rw [show ((4 : Int)).toNat = 4 from rfl] at hx155_0)
                        replace p155 := eq_true p155
                        replace q155 := eq_true q155
                        have p156 : 0 ≤ (5 : Int) := (by omega)
                        have q156 : 5 < (t146.length : Int) := of_decide_eq_true (by first | (with_reducible assumption) | assumption)
                        obtain ⟨ad156, e156, hx156_0⟩ := Kd.at_int (Kd.R_reads' HO150.out).2.2 5 p156 q156
                        obtain rfl : ad151 = ad156 := (by injection e156)
                        (try simp only [show (5 : Int).toNat = 5 from rfl, Nat.reduceMul, Nat.reduceEqDiff, Go.Addr.add, ↓reduceIte] at hx156_0)
                        have qi156 : (5 < t146.length) = True := eq_true (by omega)
                        (try rw [show ((5 : Int)).toNat = 5 from rfl] at hx156_0)
                        replace p156 := eq_true p156
                        replace q156 := eq_true q156
                        have p157 : 0 ≤ (6 : Int) := (by omega)
                        have q157 : 6 < (t146.length : Int) := of_decide_eq_true (by first | (with_reducible assumption) | assumption)
                        obtain ⟨ad157, e157, hx157_0⟩ := Kd.at_int (Kd.R_reads' HO150.out).2.2 6 p157 q157
                        obtain rfl : ad151 = ad157 := (by injection e157)
                        (try simp only [show (6 : Int).toNat = 6 from rfl, Nat.reduceMul, Nat.reduceEqDiff, Go.Addr.add, ↓reduceIte] at hx157_0)
                        have qi157 : (6 < t146.length) = True := eq_true (by omega)
                        (try rw [show ((6 : Int)).toNat = 6 from rfl] at hx157_0)
                        replace p157 := eq_true p157
                        replace q157 := eq_true q157
                        refine start_ (n := 26) (S := fun w' => w'.cell? ad151 = some (.int .u64 (rd t146 0)) ∧ w'.cell? ⟨ad151.block, ad151.off + 1, none⟩ = some (.int .u64 (rd t146 1)) ∧ w'.cell? ⟨ad151.block, ad151.off + 3, none⟩ = some (.int .u64 (rd t146 3)) ∧ w'.cell? ⟨ad151.block, ad151.off + 4, none⟩ = some (.int .u64 (rd t146 4)) ∧ w'.cell? ⟨ad151.block, ad151.off + 5, none⟩ = some (.int .u64 (rd t146 5)) ∧ w'.cell? ⟨ad151.block, ad151.off + 6, none⟩ = some (.int .u64 (rd t146 6))) (ds := []) #[false, false, false, false, false, false, false, false, false, false, false, false, false, false, false, false, false, false, false, false, false, false, false, false, false, false] (by kernel_rfl) rfl rfl ⟨hx152_0, hx153_0, hx154_0, hx155_0, hx156_0, hx157_0⟩ (fun hHeld => ?_); refine with_tabW tagged_Open.tab8 tagged_Open.bits8 (fun HT_ HW_ => ?_)
                        generalize w41.drew = w43 at HO145 HO150 BK142 HB hx152_0 hx153_0 hx154_0 hx155_0 hx156_0 hx157_0 hHeld ⊢
                        refine pure_ (i := 0) (N := some 30) (v := ?_) (a' := ?_) #[true, false, false, false, false, false, false, false, false, false, false, false, false, false, false, false, false, false, false, false, false, false, false, false, false, false] rfl rfl (any_of HT_.out (by kernel_rfl)) (fun _ _ _ h => h) (Or.inl ⟨by rfl, ?_⟩) ?_ ?_
                        rotate_left
                        · intro w'
                          go_simp
                          with_reducible rfl
                        rotate_left
                        · simp only [Act.put, List.setIfInBounds_toArray, List.set_cons_zero, List.set_cons_succ, i64_w, i32_w]
                          rfl
                        refine pure_ (i := 1) (N := some 31) (v := ?_) (a' := ?_) #[true, true, false, false, false, false, false, false, false, false, false, false, false, false, false, false, false, false, false, false, false, false, false, false, false, false] rfl rfl (any_of HT_.out (by kernel_rfl)) (fun _ _ _ h => h) (Or.inl ⟨by rfl, ?_⟩) ?_ ?_
                        rotate_left
                        · intro w'
                          go_simp
                          with_reducible rfl
                        rotate_left
                        · simp only [Act.put, List.setIfInBounds_toArray, List.set_cons_zero, List.set_cons_succ, i64_w, i32_w]
                          rfl
                        refine pure_ (i := 3) (N := some 33) (v := ?_) (a' := ?_) #[true, true, false, true, false, false, false, false, false, false, false, false, false, false, false, false, false, false, false, false, false, false, false, false, false, false] rfl rfl (any_of HT_.out (by kernel_rfl)) (fun _ _ _ h => h) (Or.inl ⟨by rfl, ?_⟩) ?_ ?_
                        rotate_left
                        · intro w'
                          go_simp
                          with_reducible rfl
                        rotate_left
                        · simp only [Act.put, List.setIfInBounds_toArray, List.set_cons_zero, List.set_cons_succ, i64_w, i32_w]
                          rfl
                        refine pure_ (i := 4) (N := some 34) (v := ?_) (a' := ?_) #[true, true, false, true, true, false, false, false, false, false, false, false, false, false, false, false, false, false, false, false, false, false, false, false, false, false] rfl rfl (any_of HT_.out (by kernel_rfl)) (fun _ _ _ h => h) (Or.inl ⟨by rfl, ?_⟩) ?_ ?_
                        rotate_left
                        · intro w'
                          go_simp
                          with_reducible rfl
                        rotate_left
                        · simp only [Act.put, List.setIfInBounds_toArray, List.set_cons_zero, List.set_cons_succ, i64_w, i32_w]
                          rfl
                        refine pure_ (i := 6) (N := some 36) (v := ?_) (a' := ?_) #[true, true, false, true, true, false, true, false, false, false, false, false, false, false, false, false, false, false, false, false, false, false, false, false, false, false] rfl rfl (any_of HT_.out (by kernel_rfl)) (fun _ _ _ h => h) (Or.inl ⟨by rfl, ?_⟩) ?_ ?_
                        rotate_left
                        · intro w'
                          go_simp
                          with_reducible rfl
                        rotate_left
                        · simp only [Act.put, List.setIfInBounds_toArray, List.set_cons_zero, List.set_cons_succ, i64_w, i32_w]
                          rfl
                        refine pure_ (i := 7) (N := some 37) (v := ?_) (a' := ?_) #[true, true, false, true, true, false, true, true, false, false, false, false, false, false, false, false, false, false, false, false, false, false, false, false, false, false] rfl rfl (any_of HT_.out (by kernel_rfl)) (fun _ _ _ h => h) (Or.inl ⟨by rfl, ?_⟩) ?_ ?_
                        rotate_left
                        · intro w'
                          go_simp
                          with_reducible rfl
                        rotate_left
                        · simp only [Act.put, List.setIfInBounds_toArray, List.set_cons_zero, List.set_cons_succ, i64_w, i32_w]
                          rfl
                        refine pure_ (i := 10) (N := some 40) (v := ?_) (a' := ?_) #[true, true, false, true, true, false, true, true, false, false, true, false, false, false, false, false, false, false, false, false, false, false, false, false, false, false] rfl rfl (any_of HT_.out (by kernel_rfl)) (fun _ _ _ h => h) (Or.inl ⟨by rfl, ?_⟩) ?_ ?_
                        rotate_left
                        · intro w'
                          go_simp
                          with_reducible rfl
                        rotate_left
                        · simp only [Act.put, List.setIfInBounds_toArray, List.set_cons_zero, List.set_cons_succ, i64_w, i32_w]
                          rfl
                        refine pure_ (i := 11) (N := some 41) (v := ?_) (a' := ?_) #[true, true, false, true, true, false, true, true, false, false, true, true, false, false, false, false, false, false, false, false, false, false, false, false, false, false] rfl rfl (any_of HT_.out (by kernel_rfl)) (fun _ _ _ h => h) (Or.inl ⟨by rfl, ?_⟩) ?_ ?_
                        rotate_left
                        · intro w'
                          go_simp
                          with_reducible rfl
                        rotate_left
                        · simp only [Act.put, List.setIfInBounds_toArray, List.set_cons_zero, List.set_cons_succ, i64_w, i32_w]
                          rfl
                        refine pure_ (i := 14) (N := some 44) (v := ?_) (a' := ?_) #[true, true, false, true, true, false, true, true, false, false, true, true, false, false, true, false, false, false, false, false, false, false, false, false, false, false] rfl rfl (any_of HT_.out (by kernel_rfl)) (fun _ _ _ h => h) (Or.inl ⟨by rfl, ?_⟩) ?_ ?_
                        rotate_left
                        · intro w'
                          go_simp
                          with_reducible rfl
                        rotate_left
                        · simp only [Act.put, List.setIfInBounds_toArray, List.set_cons_zero, List.set_cons_succ, i64_w, i32_w]
                          rfl
                        refine pure_ (i := 15) (N := some 45) (v := ?_) (a' := ?_) #[true, true, false, true, true, false, true, true, false, false, true, true, false, false, true, true, false, false, false, false, false, false, false, false, false, false] rfl rfl (any_of HT_.out (by kernel_rfl)) (fun _ _ _ h => h) (Or.inl ⟨by rfl, ?_⟩) ?_ ?_
                        rotate_left
                        · intro w'
                          go_simp
                          with_reducible rfl
                        rotate_left
                        · simp only [Act.put, List.setIfInBounds_toArray, List.set_cons_zero, List.set_cons_succ, i64_w, i32_w]
                          rfl
                        refine pure_ (i := 18) (N := some 48) (v := ?_) (a' := ?_) #[true, true, false, true, true, false, true, true, false, false, true, true, false, false, true, true, false, false, true, false, false, false, false, false, false, false] rfl rfl (any_of HT_.out (by kernel_rfl)) (fun _ _ _ h => h) (Or.inl ⟨by rfl, ?_⟩) ?_ ?_
                        rotate_left
                        · intro w'
                          go_simp
                          with_reducible rfl
                        rotate_left
                        · simp only [Act.put, List.setIfInBounds_toArray, List.set_cons_zero, List.set_cons_succ, i64_w, i32_w]
                          rfl
                        refine pure_ (i := 19) (N := some 49) (v := ?_) (a' := ?_) #[true, true, false, true, true, false, true, true, false, false, true, true, false, false, true, true, false, false, true, true, false, false, false, false, false, false] rfl rfl (any_of HT_.out (by kernel_rfl)) (fun _ _ _ h => h) (Or.inl ⟨by rfl, ?_⟩) ?_ ?_
                        rotate_left
                        · intro w'
                          go_simp
                          with_reducible rfl
                        rotate_left
                        · simp only [Act.put, List.setIfInBounds_toArray, List.set_cons_zero, List.set_cons_succ, i64_w, i32_w]
                          rfl
                        refine pure_ (i := 22) (N := some 52) (v := ?_) (a' := ?_) #[true, true, false, true, true, false, true, true, false, false, true, true, false, false, true, true, false, false, true, true, false, false, true, false, false, false] rfl rfl (any_of HT_.out (by kernel_rfl)) (fun _ _ _ h => h) (Or.inl ⟨by rfl, ?_⟩) ?_ ?_
                        rotate_left
                        · intro w'
                          go_simp
                          with_reducible rfl
                        rotate_left
                        · simp only [Act.put, List.setIfInBounds_toArray, List.set_cons_zero, List.set_cons_succ, i64_w, i32_w]
                          rfl
                        refine take_ (i := 2) (N := some 32) (v := ?_) (a' := ?_) #[true, true, true, true, true, false, true, true, false, false, true, true, false, false, true, true, false, false, true, true, false, false, true, false, false, false] rfl rfl (take_ofW HT_.out HW_.out (by kernel_rfl)) (fun _ _ _ h => h) (Or.inl ⟨by rfl, ?_⟩) hHeld ?_ ?_
                        rotate_left
                        · rintro w' ⟨s0, s1, s2, s3, s4, s5⟩
                          go_simp
                          with_reducible rfl
                        rotate_left
                        · simp only [Act.put, List.setIfInBounds_toArray, List.set_cons_zero, List.set_cons_succ, i64_w, i32_w]
                          rfl
                        refine take_ (i := 5) (N := some 35) (v := ?_) (a' := ?_) #[true, true, true, true, true, true, true, true, false, false, true, true, false, false, true, true, false, false, true, true, false, false, true, false, false, false] rfl rfl (take_ofW HT_.out HW_.out (by kernel_rfl)) (fun _ _ _ h => h) (Or.inl ⟨by rfl, ?_⟩) hHeld ?_ ?_
                        rotate_left
                        · rintro w' ⟨s0, s1, s2, s3, s4, s5⟩
                          go_simp
                          with_reducible rfl
                        rotate_left
                        · simp only [Act.put, List.setIfInBounds_toArray, List.set_cons_zero, List.set_cons_succ, i64_w, i32_w]
                          rfl
                        refine take_ (i := 8) (N := some 38) (v := ?_) (a' := ?_) #[true, true, true, true, true, true, true, true, true, false, true, true, false, false, true, true, false, false, true, true, false, false, true, false, false, false] rfl rfl (take_ofW HT_.out HW_.out (by kernel_rfl)) (fun _ _ _ h => h) (Or.inl ⟨by rfl, ?_⟩) hHeld ?_ ?_
                        rotate_left
                        · rintro w' ⟨s0, s1, s2, s3, s4, s5⟩
                          go_simp
                          with_reducible rfl
                        rotate_left
                        · simp only [Act.put, List.setIfInBounds_toArray, List.set_cons_zero, List.set_cons_succ, i64_w, i32_w]
                          rfl
                        refine pure_ (i := 9) (N := some 39) (v := ?_) (a' := ?_) #[true, true, true, true, true, true, true, true, true, true, true, true, false, false, true, true, false, false, true, true, false, false, true, false, false, false] rfl rfl (any_of HT_.out (by kernel_rfl)) (fun _ _ _ h => h) (Or.inl ⟨by rfl, ?_⟩) ?_ ?_
                        rotate_left
                        · intro w'
                          go_simp
                          with_reducible rfl
                        rotate_left
                        · simp only [Act.put, List.setIfInBounds_toArray, List.set_cons_zero, List.set_cons_succ, i64_w, i32_w]
                          rfl
                        refine take_ (i := 12) (N := some 42) (v := ?_) (a' := ?_) #[true, true, true, true, true, true, true, true, true, true, true, true, true, false, true, true, false, false, true, true, false, false, true, false, false, false] rfl rfl (take_ofW HT_.out HW_.out (by kernel_rfl)) (fun _ _ _ h => h) (Or.inl ⟨by rfl, ?_⟩) hHeld ?_ ?_
                        rotate_left
                        · rintro w' ⟨s0, s1, s2, s3, s4, s5⟩
                          go_simp
                          with_reducible rfl
                        rotate_left
                        · simp only [Act.put, List.setIfInBounds_toArray, List.set_cons_zero, List.set_cons_succ, i64_w, i32_w]
                          rfl
                        refine pure_ (i := 13) (N := some 43) (v := ?_) (a' := ?_) #[true, true, true, true, true, true, true, true, true, true, true, true, true, true, true, true, false, false, true, true, false, false, true, false, false, false] rfl rfl (any_of HT_.out (by kernel_rfl)) (fun _ _ _ h => h) (Or.inl ⟨by rfl, ?_⟩) ?_ ?_
                        rotate_left
                        · intro w'
                          go_simp
                          with_reducible rfl
                        rotate_left
                        · simp only [Act.put, List.setIfInBounds_toArray, List.set_cons_zero, List.set_cons_succ, i64_w, i32_w]
                          rfl
                        refine take_ (i := 16) (N := some 46) (v := ?_) (a' := ?_) #[true, true, true, true, true, true, true, true, true, true, true, true, true, true, true, true, true, false, true, true, false, false, true, false, false, false] rfl rfl (take_ofW HT_.out HW_.out (by kernel_rfl)) (fun _ _ _ h => h) (Or.inl ⟨by rfl, ?_⟩) hHeld ?_ ?_
                        rotate_left
                        · rintro w' ⟨s0, s1, s2, s3, s4, s5⟩
                          go_simp
                          with_reducible rfl
                        rotate_left
                        · simp only [Act.put, List.setIfInBounds_toArray, List.set_cons_zero, List.set_cons_succ, i64_w, i32_w]
                          rfl
                        refine pure_ (i := 17) (N := some 47) (v := ?_) (a' := ?_) #[true, true, true, true, true, true, true, true, true, true, true, true, true, true, true, true, true, true, true, true, false, false, true, false, false, false] rfl rfl (any_of HT_.out (by kernel_rfl)) (fun _ _ _ h => h) (Or.inl ⟨by rfl, ?_⟩) ?_ ?_
                        rotate_left
                        · intro w'
                          go_simp
                          with_reducible rfl
                        rotate_left
                        · simp only [Act.put, List.setIfInBounds_toArray, List.set_cons_zero, List.set_cons_succ, i64_w, i32_w]
                          rfl
                        refine take_ (i := 20) (N := some 50) (v := ?_) (a' := ?_) #[true, true, true, true, true, true, true, true, true, true, true, true, true, true, true, true, true, true, true, true, true, false, true, false, false, false] rfl rfl (take_ofW HT_.out HW_.out (by kernel_rfl)) (fun _ _ _ h => h) (Or.inl ⟨by rfl, ?_⟩) hHeld ?_ ?_
                        rotate_left
                        · rintro w' ⟨s0, s1, s2, s3, s4, s5⟩
                          go_simp
                          with_reducible rfl
                        rotate_left
                        · simp only [Act.put, List.setIfInBounds_toArray, List.set_cons_zero, List.set_cons_succ, i64_w, i32_w]
                          rfl
                        refine pure_ (i := 21) (N := some 51) (v := ?_) (a' := ?_) #[true, true, true, true, true, true, true, true, true, true, true, true, true, true, true, true, true, true, true, true, true, true, true, false, false, false] rfl rfl (any_of HT_.out (by kernel_rfl)) (fun _ _ _ h => h) (Or.inl ⟨by rfl, ?_⟩) ?_ ?_
                        rotate_left
                        · intro w'
                          go_simp
                          with_reducible rfl
                        rotate_left
                        · simp only [Act.put, List.setIfInBounds_toArray, List.set_cons_zero, List.set_cons_succ, i64_w, i32_w]
                          rfl
                        refine pure_ (i := 23) (N := some 53) (v := ?_) (a' := ?_) #[true, true, true, true, true, true, true, true, true, true, true, true, true, true, true, true, true, true, true, true, true, true, true, true, false, false] rfl rfl (any_of HT_.out (by kernel_rfl)) (fun _ _ _ h => h) (Or.inl ⟨by rfl, ?_⟩) ?_ ?_
                        rotate_left
                        · intro w'
                          go_simp
                          with_reducible rfl
                        rotate_left
                        · simp only [Act.put, List.setIfInBounds_toArray, List.set_cons_zero, List.set_cons_succ, i64_w, i32_w]
                          rfl
                        refine one_ (i := 24) (N := some 7) #[true, true, true, true, true, true, true, true, true, true, true, true, true, true, true, true, true, true, true, true, true, true, true, true, true, false] rfl rfl (one_of HT_.out (by kernel_rfl)) (by decide) (fun K hK => ?_)
                        refine box_step ?hg (N := 7) ?hd (cs := #[.int .u64 0, .int .u64 0, .int .u8 0, .bool false, .int .u16 0, .int .u16 0, .string (⟨#[]⟩ : ByteArray)]) (t := 27) ?hr ?_; (case hd => rfl); (case hg => rfl); (case hr => first | (go_simp; done) | (go_simp; rfl))
                        intro gb158 hg w44 hbox hb
                        have HS0_ := (hb.cell (World.block_lt_of_cell? _ _ (hHeld.1))).trans (hHeld.1)
                        have HS1_ := (hb.cell (World.block_lt_of_cell? _ _ (hHeld.2.1))).trans (hHeld.2.1)
                        have HS2_ := (hb.cell (World.block_lt_of_cell? _ _ (hHeld.2.2.1))).trans (hHeld.2.2.1)
                        have HS3_ := (hb.cell (World.block_lt_of_cell? _ _ (hHeld.2.2.2.1))).trans (hHeld.2.2.2.1)
                        have HS4_ := (hb.cell (World.block_lt_of_cell? _ _ (hHeld.2.2.2.2.1))).trans (hHeld.2.2.2.2.1)
                        have HS5_ := (hb.cell (World.block_lt_of_cell? _ _ (hHeld.2.2.2.2.2))).trans (hHeld.2.2.2.2.2)
                        have n0_ := Aside0.mk (Kd.R_below (by (with_reducible repeat (first | apply Kd.R_alloc | apply Kd.R_drewN | apply Kd.R_drew)); exact HO145.out) hb)
                        have n1_ := Aside0.mk (Kd.R_below (by (with_reducible repeat (first | apply Kd.R_alloc | apply Kd.R_drewN | apply Kd.R_drew)); exact HO150.out) hb)
                        have n2_ := Aside0.mk (blk_below (g := gb142) (o := .cells #[.int .u64 0, .int .u64 0, .int .u8 0, .bool false, .int .u16 0, .int .u16 0, .string (⟨#[]⟩ : ByteArray)] 27 (0, 0)) (by (with_reducible repeat (first | refine blk_drewN ?_ _ | refine blk_drew ?_ | refine blk_alloc ?_ _)); exact BK142.out) hb)
                        have n3_ := Aside0.mk (below_step (by repeat (first | (with_reducible first | exact HB.out | apply below_alloc | apply pw_below_drewN | apply below_drew1 | refine below_set ?_ GE142.out) | exact HB.out)) hb)
                        have n4_ := Aside0.mk (hbox)
                        have n5_ := Aside0.mk ((by rw [hg]; exact (below_size (by repeat (first | (with_reducible first | exact HB.out | apply below_alloc | apply pw_below_drewN | apply below_drew1 | refine below_set ?_ GE142.out) | exact HB.out))) : w.heap.size ≤ gb158))
                        have n6_ := Aside0.mk ((by rw [hg]; exact (below_size (by repeat (first | (with_reducible first | exact HB.out | apply below_alloc | apply pw_below_drewN | apply below_drew1 | refine below_set ?_ GE142.out) | exact HB.out))) : w.heap.size ≤ gb158))
                        have n7_ := Aside0.mk ((by rw [hg]; exact Nat.ne_of_lt (blk_lt (g := gb142) (o := .cells #[.int .u64 0, .int .u64 0, .int .u8 0, .bool false, .int .u16 0, .int .u16 0, .string (⟨#[]⟩ : ByteArray)] 27 (0, 0)) (by (with_reducible repeat (first | refine blk_drewN ?_ _ | refine blk_drew ?_ | refine blk_alloc ?_ _)); exact BK142.out)) : gb142 ≠ gb158))
                        have n8_ := Aside0.mk ((by rw [hg]; exact Nat.ne_of_gt (blk_lt (g := gb142) (o := .cells #[.int .u64 0, .int .u64 0, .int .u8 0, .bool false, .int .u16 0, .int .u16 0, .string (⟨#[]⟩ : ByteArray)] 27 (0, 0)) (by (with_reducible repeat (first | refine blk_drewN ?_ _ | refine blk_drew ?_ | refine blk_alloc ?_ _)); exact BK142.out)) : gb158 ≠ gb142))
                        clear HO145
                        clear HO150
                        clear BK142
                        clear HB
                        have HO145 := n0_
                        have HO150 := n1_
                        have BK142 := n2_
                        have HB := n3_
                        have BK158 := n4_
                        have GW158 := n5_
                        have GE158 := n6_
                        have NB142_158 := n7_
                        have NB158_142 := n8_
                        clear n0_ n1_ n2_ n3_ n4_ n5_ n6_ n7_ n8_
                        clear hb hbox hg
                        refine hK.out _ _ ⟨HS0_, HS1_, HS2_, HS3_, HS4_, HS5_⟩ (fun hHeld => ?_)
                        clear hK K
                        refine norm_ (a' := ?_) ?_ ?_
                        rotate_left
                        · show Act.put _ (some 7) _ = _
                          simp only [Act.put, List.setIfInBounds_toArray, List.set_cons_zero, List.set_cons_succ, i64_w, i32_w]
                          rfl
                        refine one_ (i := 25) (N := none) #[true, true, true, true, true, true, true, true, true, true, true, true, true, true, true, true, true, true, true, true, true, true, true, true, true, true] rfl rfl (one_of HT_.out (by kernel_rfl)) (by decide) (fun K hK => ?_)
                        have hs45 : w44.cell? ⟨gb158, 0, none⟩ = some (.int .u64 0) := (blk_cell BK158.out 0).trans rfl
                        have hfs45 := blk_frozen BK158.out 0
                        have hns45_0 := NB142_158.out
                        have hms45_0 := NB158_142.out
                        have hs46 : w44.cell? ⟨gb158, 1, none⟩ = some (.int .u64 0) := (blk_cell BK158.out 1).trans rfl
                        have hfs46 := blk_frozen BK158.out 1
                        have hns46_0 := NB142_158.out
                        have hms46_0 := NB158_142.out
                        have hs47 : w44.cell? ⟨gb158, 2, none⟩ = some (.int .u8 0) := (blk_cell BK158.out 2).trans rfl
                        have hfs47 := blk_frozen BK158.out 2
                        have hns47_0 := NB142_158.out
                        have hms47_0 := NB158_142.out
                        have hs48 : w44.cell? ⟨gb158, 3, none⟩ = some (.bool false) := (blk_cell BK158.out 3).trans rfl
                        have hfs48 := blk_frozen BK158.out 3
                        have hns48_0 := NB142_158.out
                        have hms48_0 := NB158_142.out
                        have hs49 : w44.cell? ⟨gb158, 4, none⟩ = some (.int .u16 0) := (blk_cell BK158.out 4).trans rfl
                        have hfs49 := blk_frozen BK158.out 4
                        have hns49_0 := NB142_158.out
                        have hms49_0 := NB158_142.out
                        have hs50 : w44.cell? ⟨gb158, 5, none⟩ = some (.int .u16 0) := (blk_cell BK158.out 5).trans rfl
                        have hfs50 := blk_frozen BK158.out 5
                        have hns50_0 := NB142_158.out
                        have hms50_0 := NB158_142.out
                        have hs51 : w44.cell? ⟨gb158, 6, none⟩ = some (.string (⟨#[]⟩ : ByteArray)) := (blk_cell BK158.out 6).trans rfl
                        have hfs51 := blk_frozen BK158.out 6
                        have hns51_0 := NB142_158.out
                        have hms51_0 := NB158_142.out
                        refine skip_ (w1 := ?_) (by rfl) rfl ?_ ?_
                        rotate_left
                        · go_simp
                          rfl
                        refine hK.out _ _ ⟨?hh0_, ?hh1_, ?hh2_, ?hh3_, ?hh4_, ?hh5_⟩ (fun hHeld => ?_)
                        case hh0_ =>
                          have hfF_ : ∀ (W_ : World) (a_ : Addr) (i_ : Nat) (u_ : Value), a_.block ≠ gb158 → (W_.setCell ⟨gb158, i_, none⟩ u_).cell? a_ = W_.cell? a_ := fun W_ a_ i_ u_ h_ => cell_far (p := ⟨gb158, i_, none⟩) h_ u_
                          have hqF_ := (Kd.own_blk (Kd.R_ne HO150.out BK158.out (by decide)))
                          simp only [hfF_, ne_eq, hqF_, not_false_eq_true]
                          exact hHeld.1
                        case hh1_ =>
                          have hfF_ : ∀ (W_ : World) (a_ : Addr) (i_ : Nat) (u_ : Value), a_.block ≠ gb158 → (W_.setCell ⟨gb158, i_, none⟩ u_).cell? a_ = W_.cell? a_ := fun W_ a_ i_ u_ h_ => cell_far (p := ⟨gb158, i_, none⟩) h_ u_
                          have hqF_ := (Kd.own_blk (Kd.R_ne HO150.out BK158.out (by decide)))
                          simp only [hfF_, ne_eq, hqF_, not_false_eq_true]
                          exact hHeld.2.1
                        case hh2_ =>
                          have hfF_ : ∀ (W_ : World) (a_ : Addr) (i_ : Nat) (u_ : Value), a_.block ≠ gb158 → (W_.setCell ⟨gb158, i_, none⟩ u_).cell? a_ = W_.cell? a_ := fun W_ a_ i_ u_ h_ => cell_far (p := ⟨gb158, i_, none⟩) h_ u_
                          have hqF_ := (Kd.own_blk (Kd.R_ne HO150.out BK158.out (by decide)))
                          simp only [hfF_, ne_eq, hqF_, not_false_eq_true]
                          exact hHeld.2.2.1
                        case hh3_ =>
                          have hfF_ : ∀ (W_ : World) (a_ : Addr) (i_ : Nat) (u_ : Value), a_.block ≠ gb158 → (W_.setCell ⟨gb158, i_, none⟩ u_).cell? a_ = W_.cell? a_ := fun W_ a_ i_ u_ h_ => cell_far (p := ⟨gb158, i_, none⟩) h_ u_
                          have hqF_ := (Kd.own_blk (Kd.R_ne HO150.out BK158.out (by decide)))
                          simp only [hfF_, ne_eq, hqF_, not_false_eq_true]
                          exact hHeld.2.2.2.1
                        case hh4_ =>
                          have hfF_ : ∀ (W_ : World) (a_ : Addr) (i_ : Nat) (u_ : Value), a_.block ≠ gb158 → (W_.setCell ⟨gb158, i_, none⟩ u_).cell? a_ = W_.cell? a_ := fun W_ a_ i_ u_ h_ => cell_far (p := ⟨gb158, i_, none⟩) h_ u_
                          have hqF_ := (Kd.own_blk (Kd.R_ne HO150.out BK158.out (by decide)))
                          simp only [hfF_, ne_eq, hqF_, not_false_eq_true]
                          exact hHeld.2.2.2.2.1
                        case hh5_ =>
                          have hfF_ : ∀ (W_ : World) (a_ : Addr) (i_ : Nat) (u_ : Value), a_.block ≠ gb158 → (W_.setCell ⟨gb158, i_, none⟩ u_).cell? a_ = W_.cell? a_ := fun W_ a_ i_ u_ h_ => cell_far (p := ⟨gb158, i_, none⟩) h_ u_
                          have hqF_ := (Kd.own_blk (Kd.R_ne HO150.out BK158.out (by decide)))
                          simp only [hfF_, ne_eq, hqF_, not_false_eq_true]
                          exact hHeld.2.2.2.2.2
                        clear hK K
                        refine done_ (done_of HT_.out (by kernel_rfl)) ?_
                        have hnb52 := NB158_142.out
                        have hnc52 := NB142_158.out
                        have hcz53_0 : w44.cell? ⟨gb158, 0, none⟩ = some (.int .u64 0) := (blk_cell BK158.out 0).trans rfl
                        have hcz53_1 : w44.cell? ⟨gb158, 1, none⟩ = some (.int .u64 0) := (blk_cell BK158.out 1).trans rfl
                        have hcz53_2 : w44.cell? ⟨gb158, 2, none⟩ = some (.int .u8 0) := (blk_cell BK158.out 2).trans rfl
                        have hcz53_3 : w44.cell? ⟨gb158, 3, none⟩ = some (.bool false) := (blk_cell BK158.out 3).trans rfl
                        have hcz53_4 : w44.cell? ⟨gb158, 4, none⟩ = some (.int .u16 0) := (blk_cell BK158.out 4).trans rfl
                        have hcz53_5 : w44.cell? ⟨gb158, 5, none⟩ = some (.int .u16 0) := (blk_cell BK158.out 5).trans rfl
                        have hcz53_6 : w44.cell? ⟨gb158, 6, none⟩ = some (.string (⟨#[]⟩ : ByteArray)) := (blk_cell BK158.out 6).trans rfl
                        have hfz53_0 := blk_frozen BK158.out 0
                        have hfz53_1 := blk_frozen BK158.out 1
                        have hfz53_2 := blk_frozen BK158.out 2
                        have hfz53_3 := blk_frozen BK158.out 3
                        have hfz53_4 := blk_frozen BK158.out 4
                        have hfz53_5 := blk_frozen BK158.out 5
                        have hfz53_6 := blk_frozen BK158.out 6
                        try go_wp2_with (first | ((with_reducible refine gate_callee (f := 31) rfl ?_); refine goesL_ (some 55) rfl rfl Try.func31 (by kernel_rfl) rfl #[.agg #[.int .u64 (rd t146 0), .int .u64 (rd t146 1), .int .u8 ((rd t146 3) % 256), .bool ((rd t146 4) == 1), .int .u16 (IntKind.u16.wrap (rd t146 5)), .int .u16 (IntKind.u16.wrap (rd t146 6)), .string t147]] rfl (by (try simp only [List.map_toArray, List.map_cons, List.map_nil]); first | done | rfl | (simp only [List.length_drop, List.length_take]; rfl)) ?_; (with_reducible refine (tagged_Frame_wrong.calls k (rd t146 0) (rd t146 1) ((rd t146 3) % 256) ((rd t146 4) == 1) (IntKind.u16.wrap (rd t146 5)) (IntKind.u16.wrap (rd t146 6)) t147 t159 _ A15.out).mono ?_); rintro e w54 ⟨rfl, hb⟩; refine ⟨_, rfl, ?_⟩; have n0_ := Aside0.mk (Kd.R_below (by (with_reducible repeat (first | apply Kd.R_alloc | apply Kd.R_drewN | apply Kd.R_drew)); exact (Kd.R_mono (Kd.R_far (p := ⟨gb158, 6, none⟩) (Kd.R_far (p := ⟨gb158, 5, none⟩) (Kd.R_far (p := ⟨gb158, 4, none⟩) (Kd.R_far (p := ⟨gb158, 3, none⟩) (Kd.R_far (p := ⟨gb158, 2, none⟩) (Kd.R_far (p := ⟨gb158, 1, none⟩) (Kd.R_far (p := ⟨gb158, 0, none⟩) (Kd.R_types HO145.out BK158.out (by decide)) (fun _ hk => hk.2) (.int .u64 (rd t146 0))) (fun _ hk => hk.2) (.int .u64 (rd t146 1))) (fun _ hk => hk.2) (.int .u8 ((rd t146 3) % 256))) (fun _ hk => hk.2) (.bool ((rd t146 4) == 1))) (fun _ hk => hk.2) (.int .u16 (IntKind.u16.wrap (rd t146 5)))) (fun _ hk => hk.2) (.int .u16 (IntKind.u16.wrap (rd t146 6)))) (fun _ hk => hk.2) (.string t147)) (fun _ h_ => h_.1))) hb); have n1_ := Aside0.mk (Kd.R_below (by (with_reducible repeat (first | apply Kd.R_alloc | apply Kd.R_drewN | apply Kd.R_drew)); exact (Kd.R_mono (Kd.R_far (p := ⟨gb158, 6, none⟩) (Kd.R_far (p := ⟨gb158, 5, none⟩) (Kd.R_far (p := ⟨gb158, 4, none⟩) (Kd.R_far (p := ⟨gb158, 3, none⟩) (Kd.R_far (p := ⟨gb158, 2, none⟩) (Kd.R_far (p := ⟨gb158, 1, none⟩) (Kd.R_far (p := ⟨gb158, 0, none⟩) (Kd.R_types HO150.out BK158.out (by decide)) (fun _ hk => hk.2) (.int .u64 (rd t146 0))) (fun _ hk => hk.2) (.int .u64 (rd t146 1))) (fun _ hk => hk.2) (.int .u8 ((rd t146 3) % 256))) (fun _ hk => hk.2) (.bool ((rd t146 4) == 1))) (fun _ hk => hk.2) (.int .u16 (IntKind.u16.wrap (rd t146 5)))) (fun _ hk => hk.2) (.int .u16 (IntKind.u16.wrap (rd t146 6)))) (fun _ hk => hk.2) (.string t147)) (fun _ h_ => h_.1))) hb); have n2_ := Aside0.mk (blk_below (g := gb142) (o := .cells #[.int .u64 0, .int .u64 0, .int .u8 0, .bool false, .int .u16 0, .int .u16 0, .string (⟨#[]⟩ : ByteArray)] 27 (0, 0)) (by (with_reducible repeat (first | refine blk_drewN ?_ _ | refine blk_drew ?_ | refine blk_alloc ?_ _)); refine blk_far ?_ NB142_158.out _; (with_reducible repeat (first | refine blk_drewN ?_ _ | refine blk_drew ?_ | refine blk_alloc ?_ _)); refine blk_far ?_ NB142_158.out _; (with_reducible repeat (first | refine blk_drewN ?_ _ | refine blk_drew ?_ | refine blk_alloc ?_ _)); refine blk_far ?_ NB142_158.out _; (with_reducible repeat (first | refine blk_drewN ?_ _ | refine blk_drew ?_ | refine blk_alloc ?_ _)); refine blk_far ?_ NB142_158.out _; (with_reducible repeat (first | refine blk_drewN ?_ _ | refine blk_drew ?_ | refine blk_alloc ?_ _)); refine blk_far ?_ NB142_158.out _; (with_reducible repeat (first | refine blk_drewN ?_ _ | refine blk_drew ?_ | refine blk_alloc ?_ _)); refine blk_far ?_ NB142_158.out _; (with_reducible repeat (first | refine blk_drewN ?_ _ | refine blk_drew ?_ | refine blk_alloc ?_ _)); refine blk_far ?_ NB142_158.out _; (with_reducible repeat (first | refine blk_drewN ?_ _ | refine blk_drew ?_ | refine blk_alloc ?_ _)); exact BK142.out) hb); have n3_ := Aside0.mk (blk_below (g := gb158) (o := .cells #[.int .u64 (rd t146 0), .int .u64 (rd t146 1), .int .u8 ((rd t146 3) % 256), .bool ((rd t146 4) == 1), .int .u16 (IntKind.u16.wrap (rd t146 5)), .int .u16 (IntKind.u16.wrap (rd t146 6)), .string t147] 27 (0, 0)) (by (with_reducible repeat (first | refine blk_drewN ?_ _ | refine blk_drew ?_ | refine blk_alloc ?_ _)); refine blk_put (cs := #[.int .u64 (rd t146 0), .int .u64 (rd t146 1), .int .u8 ((rd t146 3) % 256), .bool ((rd t146 4) == 1), .int .u16 (IntKind.u16.wrap (rd t146 5)), .int .u16 (IntKind.u16.wrap (rd t146 6)), .string (⟨#[]⟩ : ByteArray)]) ?_ 6 _ rfl; (with_reducible repeat (first | refine blk_drewN ?_ _ | refine blk_drew ?_ | refine blk_alloc ?_ _)); refine blk_put (cs := #[.int .u64 (rd t146 0), .int .u64 (rd t146 1), .int .u8 ((rd t146 3) % 256), .bool ((rd t146 4) == 1), .int .u16 (IntKind.u16.wrap (rd t146 5)), .int .u16 0, .string (⟨#[]⟩ : ByteArray)]) ?_ 5 _ rfl; (with_reducible repeat (first | refine blk_drewN ?_ _ | refine blk_drew ?_ | refine blk_alloc ?_ _)); refine blk_put (cs := #[.int .u64 (rd t146 0), .int .u64 (rd t146 1), .int .u8 ((rd t146 3) % 256), .bool ((rd t146 4) == 1), .int .u16 0, .int .u16 0, .string (⟨#[]⟩ : ByteArray)]) ?_ 4 _ rfl; (with_reducible repeat (first | refine blk_drewN ?_ _ | refine blk_drew ?_ | refine blk_alloc ?_ _)); refine blk_put (cs := #[.int .u64 (rd t146 0), .int .u64 (rd t146 1), .int .u8 ((rd t146 3) % 256), .bool false, .int .u16 0, .int .u16 0, .string (⟨#[]⟩ : ByteArray)]) ?_ 3 _ rfl; (with_reducible repeat (first | refine blk_drewN ?_ _ | refine blk_drew ?_ | refine blk_alloc ?_ _)); refine blk_put (cs := #[.int .u64 (rd t146 0), .int .u64 (rd t146 1), .int .u8 0, .bool false, .int .u16 0, .int .u16 0, .string (⟨#[]⟩ : ByteArray)]) ?_ 2 _ rfl; (with_reducible repeat (first | refine blk_drewN ?_ _ | refine blk_drew ?_ | refine blk_alloc ?_ _)); refine blk_put (cs := #[.int .u64 (rd t146 0), .int .u64 0, .int .u8 0, .bool false, .int .u16 0, .int .u16 0, .string (⟨#[]⟩ : ByteArray)]) ?_ 1 _ rfl; (with_reducible repeat (first | refine blk_drewN ?_ _ | refine blk_drew ?_ | refine blk_alloc ?_ _)); refine blk_put (cs := #[.int .u64 0, .int .u64 0, .int .u8 0, .bool false, .int .u16 0, .int .u16 0, .string (⟨#[]⟩ : ByteArray)]) ?_ 0 _ rfl; (with_reducible repeat (first | refine blk_drewN ?_ _ | refine blk_drew ?_ | refine blk_alloc ?_ _)); exact BK158.out) hb); have n4_ := Aside0.mk (below_step (by repeat (first | (with_reducible first | exact HB.out | apply below_alloc | apply pw_below_drewN | apply below_drew1 | refine below_set ?_ GE142.out | refine below_set ?_ GE158.out) | exact HB.out)) hb); clear HO145; clear HO150; clear BK142; clear BK158; clear HB; have HO145 := n0_; have HO150 := n1_; have BK142 := n2_; have BK158 := n3_; have HB := n4_; clear n0_ n1_ n2_ n3_ n4_; (try clear hb); (try clear hb2); (try clear hk); (try clear hi); have hcz55_0 : w54.cell? ⟨gb142, 0, none⟩ = some (.int .u64 0) := (blk_cell BK142.out 0).trans rfl; have hcz55_1 : w54.cell? ⟨gb142, 1, none⟩ = some (.int .u64 0) := (blk_cell BK142.out 1).trans rfl; have hcz55_2 : w54.cell? ⟨gb142, 2, none⟩ = some (.int .u8 0) := (blk_cell BK142.out 2).trans rfl; have hcz55_3 : w54.cell? ⟨gb142, 3, none⟩ = some (.bool false) := (blk_cell BK142.out 3).trans rfl; have hcz55_4 : w54.cell? ⟨gb142, 4, none⟩ = some (.int .u16 0) := (blk_cell BK142.out 4).trans rfl; have hcz55_5 : w54.cell? ⟨gb142, 5, none⟩ = some (.int .u16 0) := (blk_cell BK142.out 5).trans rfl; have hcz55_6 : w54.cell? ⟨gb142, 6, none⟩ = some (.string (⟨#[]⟩ : ByteArray)) := (blk_cell BK142.out 6).trans rfl; have hfz55_0 := blk_frozen BK142.out 0; have hfz55_1 := blk_frozen BK142.out 1; have hfz55_2 := blk_frozen BK142.out 2; have hfz55_3 := blk_frozen BK142.out 3; have hfz55_4 := blk_frozen BK142.out 4; have hfz55_5 := blk_frozen BK142.out 5; have hfz55_6 := blk_frozen BK142.out 6))
                        refine bodyPost_ret (results_ct rfl _ _ gb142 27 #[.int .u64 0, .int .u64 0, .int .u8 0, .bool false, .int .u16 0, .int .u16 0, .string (⟨#[]⟩ : ByteArray)] (0, 0) _ rfl (by (with_reducible repeat (first | refine blk_drewN ?_ _ | refine blk_drew ?_ | refine blk_alloc ?_ _)); refine blk_put (cs := #[.int .u64 0, .int .u64 0, .int .u8 0, .bool false, .int .u16 0, .int .u16 0, .string (⟨#[]⟩ : ByteArray)]) ?_ 6 _ rfl; (with_reducible repeat (first | refine blk_drewN ?_ _ | refine blk_drew ?_ | refine blk_alloc ?_ _)); refine blk_put (cs := #[.int .u64 0, .int .u64 0, .int .u8 0, .bool false, .int .u16 0, .int .u16 0, .string (⟨#[]⟩ : ByteArray)]) ?_ 5 _ rfl; (with_reducible repeat (first | refine blk_drewN ?_ _ | refine blk_drew ?_ | refine blk_alloc ?_ _)); refine blk_put (cs := #[.int .u64 0, .int .u64 0, .int .u8 0, .bool false, .int .u16 0, .int .u16 0, .string (⟨#[]⟩ : ByteArray)]) ?_ 4 _ rfl; (with_reducible repeat (first | refine blk_drewN ?_ _ | refine blk_drew ?_ | refine blk_alloc ?_ _)); refine blk_put (cs := #[.int .u64 0, .int .u64 0, .int .u8 0, .bool false, .int .u16 0, .int .u16 0, .string (⟨#[]⟩ : ByteArray)]) ?_ 3 _ rfl; (with_reducible repeat (first | refine blk_drewN ?_ _ | refine blk_drew ?_ | refine blk_alloc ?_ _)); refine blk_put (cs := #[.int .u64 0, .int .u64 0, .int .u8 0, .bool false, .int .u16 0, .int .u16 0, .string (⟨#[]⟩ : ByteArray)]) ?_ 2 _ rfl; (with_reducible repeat (first | refine blk_drewN ?_ _ | refine blk_drew ?_ | refine blk_alloc ?_ _)); refine blk_put (cs := #[.int .u64 0, .int .u64 0, .int .u8 0, .bool false, .int .u16 0, .int .u16 0, .string (⟨#[]⟩ : ByteArray)]) ?_ 1 _ rfl; (with_reducible repeat (first | refine blk_drewN ?_ _ | refine blk_drew ?_ | refine blk_alloc ?_ _)); refine blk_put (cs := #[.int .u64 0, .int .u64 0, .int .u8 0, .bool false, .int .u16 0, .int .u16 0, .string (⟨#[]⟩ : ByteArray)]) ?_ 0 _ rfl; (with_reducible repeat (first | refine blk_drewN ?_ _ | refine blk_drew ?_ | refine blk_alloc ?_ _)); exact BK142.out) Try.underlying27 rfl (by kernel_rfl)) rfl ?_
                        exact ⟨by first | rfl | (simp [errW_none, errW_some] <;> rfl) | (simp [*, errW_none, errW_some] <;> rfl), by repeat (first | (with_reducible first | exact HB.out | apply below_alloc | apply pw_below_drewN | apply below_drew1 | refine below_set ?_ GE142.out | refine below_set ?_ GE158.out) | exact HB.out)⟩
                    · rw [if_neg c14] at H
                      exact absurd H (by simp)
                  · rw [if_neg c13] at H
                    exact absurd H (by simp)
                · rw [if_neg c12] at H
                  exact absurd H (by simp)
              · rw [if_neg c11] at H
                exact absurd H (by simp)
            · rw [if_neg c10] at H
              exact absurd H (by simp)
          · rw [if_neg c9] at H
            exact absurd H (by simp)
        · rw [if_neg c8] at H
          have c8b0 : ((rd t146 2) == 33024) = false := beq_eq_false_iff_ne.mpr c8
          have c8b1 : ((rd t146 2) != 33024) = true := bne_iff_ne.mpr c8
          simp only [Option.some.injEq, Prod.mk.injEq] at H
          obtain ⟨rfl, rfl, rfl, rfl, rfl, rfl, rfl, rfl⟩ := H
          go_enter Try.func10, Try.ntmps10
          go_wp2_with (first | ((with_reducible refine gate_dst (N := 2) rfl ?_); refine box_event ?hg (N := 2) ?hd (cs := #[.int .u64 0, .int .u64 0, .int .u8 0, .bool false, .int .u16 0, .int .u16 0, .string (⟨#[]⟩ : ByteArray)]) (t := 27) ?hr ?_; (case hd => rfl); (case hg => rfl); (case hr => first | (go_simp; done) | (go_simp; rfl)); intro gb142 hg w56 hbox hb; have n0_ := Aside0.mk (below_step (by repeat (first | (with_reducible first | exact HB.out | apply below_alloc | apply pw_below_drewN | apply below_drew1) | exact HB.out)) hb); have n1_ := Aside0.mk (hbox); have n2_ := Aside0.mk ((by rw [hg]; exact (below_size (by repeat (first | (with_reducible first | exact HB.out | apply below_alloc | apply pw_below_drewN | apply below_drew1) | exact HB.out))) : w.heap.size ≤ gb142)); have n3_ := Aside0.mk ((by rw [hg]; exact (below_size (by repeat (first | (with_reducible first | exact HB.out | apply below_alloc | apply pw_below_drewN | apply below_drew1) | exact HB.out))) : w.heap.size ≤ gb142)); clear HB; have HB := n0_; have BK142 := n1_; have GW142 := n2_; have GE142 := n3_; clear n0_ n1_ n2_ n3_; clear hb hbox hg) | ((with_reducible refine gate_dst (N := 15) rfl ?_); refine Kd.R_lit (Kd.int .i64) _ 3 ?hg (N := 15) ?hd (xs := ([48, 48, 16, 3, 1, 12, 16] : List Int)) (inner := [.int .i64 48, .int .i64 48, .int .i64 16, .int .i64 3, .int .i64 1, .int .i64 12, .int .i64 16]) (ok := fun _ => True) (okp := fun _ => True) ?hr ?hp (fun _ hk => hk) trivial (Below.refl _ _) (Nat.le_refl _) (by simp) ?_; (case hd => rfl); (case hg => rfl); (case hr => first | (go_simp; done) | (go_simp; rfl)); (case hp => exact (Reps.one (show Kd.M (Kd.int .i64) _ _ _ 48 [.int .i64 48] from rfl) (Reps.one (show Kd.M (Kd.int .i64) _ _ _ 48 [.int .i64 48] from rfl) (Reps.one (show Kd.M (Kd.int .i64) _ _ _ 16 [.int .i64 16] from rfl) (Reps.one (show Kd.M (Kd.int .i64) _ _ _ 3 [.int .i64 3] from rfl) (Reps.one (show Kd.M (Kd.int .i64) _ _ _ 1 [.int .i64 1] from rfl) (Reps.one (show Kd.M (Kd.int .i64) _ _ _ 12 [.int .i64 12] from rfl) (Reps.one (show Kd.M (Kd.int .i64) _ _ _ 16 [.int .i64 16] from rfl) (Reps.none _ _))))))))); intro v144 w57 ho58 hb hg_ hnew_; clear hg_ hnew_; (first | rw [← Ny143.out] at ho58 | (simp only [Int.reduceToNat] at ho58; rw [← Ny143.out] at ho58)); have n0_ := Aside0.mk (Kd.R_lower ho58 (below_size (by repeat (first | (with_reducible first | exact HB.out | apply below_alloc | apply pw_below_drewN | apply below_drew1 | refine below_set ?_ GE142.out) | exact HB.out)))); have n1_ := Aside0.mk (blk_below (g := gb142) (o := .cells #[.int .u64 0, .int .u64 0, .int .u8 0, .bool false, .int .u16 0, .int .u16 0, .string (⟨#[]⟩ : ByteArray)] 27 (0, 0)) (by (with_reducible repeat (first | refine blk_drewN ?_ _ | refine blk_drew ?_ | refine blk_alloc ?_ _)); exact BK142.out) hb); have n2_ := Aside0.mk (below_step (by repeat (first | (with_reducible first | exact HB.out | apply below_alloc | apply pw_below_drewN | apply below_drew1 | refine below_set ?_ GE142.out) | exact HB.out)) hb); clear BK142; clear HB; have HO145 := n0_; have BK142 := n1_; have HB := n2_; clear n0_ n1_ n2_; clear hb ho58; obtain ⟨Ao59, co59, eo59⟩ := Kd.R_slice HO145.out; subst eo59) | ((with_reducible refine gate_callee (f := 30) rfl ?_); refine goesL_ (some 16) rfl rfl Try.func30 (by kernel_rfl) rfl #[.string a0, .slice Ao59 y143.length co59] rfl (by (try simp only [List.map_toArray, List.map_cons, List.map_nil]); first | done | rfl | (simp only [List.length_drop, List.length_take]; rfl)) ?_; (with_reducible refine (field_Split.calls k a0 _ _ y143 t146 t147 t148 _ ?side1 ?side2 A5.out).mono ?_); (case side1 => repeat (first | exact (Kd.R_reads' HO145.out).2.2 | (with_reducible refine Kd.C_alloc ?_ _) | (with_reducible refine Kd.C_drewN ?_ _) | (with_reducible refine Kd.C_drew ?_))); (case side2 => exact (Kd.R_reads' HO145.out).2.1); rintro e w60 ⟨v149, rfl, ho0, hb⟩; refine ⟨_, rfl, ?_⟩; have n0_ := Aside0.mk (Kd.R_below (by (with_reducible repeat (first | apply Kd.R_alloc | apply Kd.R_drewN | apply Kd.R_drew)); exact HO145.out) hb); have n1_ := Aside0.mk (Kd.R_lower ho0 (below_size (by repeat (first | (with_reducible first | exact HB.out | apply below_alloc | apply pw_below_drewN | apply below_drew1 | refine below_set ?_ GE142.out) | exact HB.out)))); have n2_ := Aside0.mk (blk_below (g := gb142) (o := .cells #[.int .u64 0, .int .u64 0, .int .u8 0, .bool false, .int .u16 0, .int .u16 0, .string (⟨#[]⟩ : ByteArray)] 27 (0, 0)) (by (with_reducible repeat (first | refine blk_drewN ?_ _ | refine blk_drew ?_ | refine blk_alloc ?_ _)); exact BK142.out) hb); have n3_ := Aside0.mk (below_step (by repeat (first | (with_reducible first | exact HB.out | apply below_alloc | apply pw_below_drewN | apply below_drew1 | refine below_set ?_ GE142.out) | exact HB.out)) hb); clear HO145; clear BK142; clear HB; have HO145 := n0_; have HO150 := n1_; have BK142 := n2_; have HB := n3_; clear n0_ n1_ n2_ n3_; (try clear hb); (try clear hb2); (try clear hk); (try clear hi); (try clear ho0); obtain ⟨Ao61, co61, eo61⟩ := Kd.R_slice HO150.out; subst eo61; have p151 : 0 ≤ (2 : Int) := (by omega); have q151 : 2 < (t146.length : Int) := of_decide_eq_true (by first | (with_reducible assumption) | assumption); obtain ⟨ad151, e151, hx151_0⟩ := Kd.at_int (Kd.R_reads' HO150.out).2.2 2 p151 q151; cases e151; (try simp only [show (2 : Int).toNat = 2 from rfl, Nat.reduceMul, Nat.reduceEqDiff, Go.Addr.add, ↓reduceIte] at hx151_0); have qi151 : (2 < t146.length) = True := eq_true (by omega); (try rw [show ((2 : Int)).toNat = 2 from rfl] at hx151_0); replace p151 := eq_true p151; replace q151 := eq_true q151; have hcz62_0 : w60.cell? ⟨gb142, 0, none⟩ = some (.int .u64 0) := (blk_cell BK142.out 0).trans rfl; have hcz62_1 : w60.cell? ⟨gb142, 1, none⟩ = some (.int .u64 0) := (blk_cell BK142.out 1).trans rfl; have hcz62_2 : w60.cell? ⟨gb142, 2, none⟩ = some (.int .u8 0) := (blk_cell BK142.out 2).trans rfl; have hcz62_3 : w60.cell? ⟨gb142, 3, none⟩ = some (.bool false) := (blk_cell BK142.out 3).trans rfl; have hcz62_4 : w60.cell? ⟨gb142, 4, none⟩ = some (.int .u16 0) := (blk_cell BK142.out 4).trans rfl; have hcz62_5 : w60.cell? ⟨gb142, 5, none⟩ = some (.int .u16 0) := (blk_cell BK142.out 5).trans rfl; have hcz62_6 : w60.cell? ⟨gb142, 6, none⟩ = some (.string (⟨#[]⟩ : ByteArray)) := (blk_cell BK142.out 6).trans rfl; have hfz62_0 := blk_frozen BK142.out 0; have hfz62_1 := blk_frozen BK142.out 1; have hfz62_2 := blk_frozen BK142.out 2; have hfz62_3 := blk_frozen BK142.out 3; have hfz62_4 := blk_frozen BK142.out 4; have hfz62_5 := blk_frozen BK142.out 5; have hfz62_6 := blk_frozen BK142.out 6))
          refine bodyPost_ret (results_ct rfl _ _ gb142 27 #[.int .u64 0, .int .u64 0, .int .u8 0, .bool false, .int .u16 0, .int .u16 0, .string (⟨#[]⟩ : ByteArray)] (0, 0) _ rfl (by (with_reducible repeat (first | refine blk_drewN ?_ _ | refine blk_drew ?_ | refine blk_alloc ?_ _)); refine blk_put (cs := #[.int .u64 0, .int .u64 0, .int .u8 0, .bool false, .int .u16 0, .int .u16 0, .string (⟨#[]⟩ : ByteArray)]) ?_ 6 _ rfl; (with_reducible repeat (first | refine blk_drewN ?_ _ | refine blk_drew ?_ | refine blk_alloc ?_ _)); refine blk_put (cs := #[.int .u64 0, .int .u64 0, .int .u8 0, .bool false, .int .u16 0, .int .u16 0, .string (⟨#[]⟩ : ByteArray)]) ?_ 5 _ rfl; (with_reducible repeat (first | refine blk_drewN ?_ _ | refine blk_drew ?_ | refine blk_alloc ?_ _)); refine blk_put (cs := #[.int .u64 0, .int .u64 0, .int .u8 0, .bool false, .int .u16 0, .int .u16 0, .string (⟨#[]⟩ : ByteArray)]) ?_ 4 _ rfl; (with_reducible repeat (first | refine blk_drewN ?_ _ | refine blk_drew ?_ | refine blk_alloc ?_ _)); refine blk_put (cs := #[.int .u64 0, .int .u64 0, .int .u8 0, .bool false, .int .u16 0, .int .u16 0, .string (⟨#[]⟩ : ByteArray)]) ?_ 3 _ rfl; (with_reducible repeat (first | refine blk_drewN ?_ _ | refine blk_drew ?_ | refine blk_alloc ?_ _)); refine blk_put (cs := #[.int .u64 0, .int .u64 0, .int .u8 0, .bool false, .int .u16 0, .int .u16 0, .string (⟨#[]⟩ : ByteArray)]) ?_ 2 _ rfl; (with_reducible repeat (first | refine blk_drewN ?_ _ | refine blk_drew ?_ | refine blk_alloc ?_ _)); refine blk_put (cs := #[.int .u64 0, .int .u64 0, .int .u8 0, .bool false, .int .u16 0, .int .u16 0, .string (⟨#[]⟩ : ByteArray)]) ?_ 1 _ rfl; (with_reducible repeat (first | refine blk_drewN ?_ _ | refine blk_drew ?_ | refine blk_alloc ?_ _)); refine blk_put (cs := #[.int .u64 0, .int .u64 0, .int .u8 0, .bool false, .int .u16 0, .int .u16 0, .string (⟨#[]⟩ : ByteArray)]) ?_ 0 _ rfl; (with_reducible repeat (first | refine blk_drewN ?_ _ | refine blk_drew ?_ | refine blk_alloc ?_ _)); exact BK142.out) Try.underlying27 rfl (by kernel_rfl)) rfl ?_
          exact ⟨by first | rfl | (simp [errW_none, errW_some] <;> rfl) | (simp [*, errW_none, errW_some] <;> rfl), by repeat (first | (with_reducible first | exact HB.out | apply below_alloc | apply pw_below_drewN | apply below_drew1 | refine below_set ?_ GE142.out) | exact HB.out)⟩
      · rw [if_neg c7] at H
        exact absurd H (by simp)
    · rw [if_neg c6] at H
      have c6b0 : (t148 == 0) = false := beq_eq_false_iff_ne.mpr c6
      have c6b1 : (t148 != 0) = true := bne_iff_ne.mpr c6
      simp only [Option.some.injEq, Prod.mk.injEq] at H
      obtain ⟨rfl, rfl, rfl, rfl, rfl, rfl, rfl, rfl⟩ := H
      go_enter Try.func10, Try.ntmps10
      go_wp2_with (first | ((with_reducible refine gate_dst (N := 2) rfl ?_); refine box_event ?hg (N := 2) ?hd (cs := #[.int .u64 0, .int .u64 0, .int .u8 0, .bool false, .int .u16 0, .int .u16 0, .string (⟨#[]⟩ : ByteArray)]) (t := 27) ?hr ?_; (case hd => rfl); (case hg => rfl); (case hr => first | (go_simp; done) | (go_simp; rfl)); intro gb142 hg w63 hbox hb; have n0_ := Aside0.mk (below_step (by repeat (first | (with_reducible first | exact HB.out | apply below_alloc | apply pw_below_drewN | apply below_drew1) | exact HB.out)) hb); have n1_ := Aside0.mk (hbox); have n2_ := Aside0.mk ((by rw [hg]; exact (below_size (by repeat (first | (with_reducible first | exact HB.out | apply below_alloc | apply pw_below_drewN | apply below_drew1) | exact HB.out))) : w.heap.size ≤ gb142)); have n3_ := Aside0.mk ((by rw [hg]; exact (below_size (by repeat (first | (with_reducible first | exact HB.out | apply below_alloc | apply pw_below_drewN | apply below_drew1) | exact HB.out))) : w.heap.size ≤ gb142)); clear HB; have HB := n0_; have BK142 := n1_; have GW142 := n2_; have GE142 := n3_; clear n0_ n1_ n2_ n3_; clear hb hbox hg) | ((with_reducible refine gate_dst (N := 15) rfl ?_); refine Kd.R_lit (Kd.int .i64) _ 3 ?hg (N := 15) ?hd (xs := ([48, 48, 16, 3, 1, 12, 16] : List Int)) (inner := [.int .i64 48, .int .i64 48, .int .i64 16, .int .i64 3, .int .i64 1, .int .i64 12, .int .i64 16]) (ok := fun _ => True) (okp := fun _ => True) ?hr ?hp (fun _ hk => hk) trivial (Below.refl _ _) (Nat.le_refl _) (by simp) ?_; (case hd => rfl); (case hg => rfl); (case hr => first | (go_simp; done) | (go_simp; rfl)); (case hp => exact (Reps.one (show Kd.M (Kd.int .i64) _ _ _ 48 [.int .i64 48] from rfl) (Reps.one (show Kd.M (Kd.int .i64) _ _ _ 48 [.int .i64 48] from rfl) (Reps.one (show Kd.M (Kd.int .i64) _ _ _ 16 [.int .i64 16] from rfl) (Reps.one (show Kd.M (Kd.int .i64) _ _ _ 3 [.int .i64 3] from rfl) (Reps.one (show Kd.M (Kd.int .i64) _ _ _ 1 [.int .i64 1] from rfl) (Reps.one (show Kd.M (Kd.int .i64) _ _ _ 12 [.int .i64 12] from rfl) (Reps.one (show Kd.M (Kd.int .i64) _ _ _ 16 [.int .i64 16] from rfl) (Reps.none _ _))))))))); intro v144 w64 ho65 hb hg_ hnew_; clear hg_ hnew_; (first | rw [← Ny143.out] at ho65 | (simp only [Int.reduceToNat] at ho65; rw [← Ny143.out] at ho65)); have n0_ := Aside0.mk (Kd.R_lower ho65 (below_size (by repeat (first | (with_reducible first | exact HB.out | apply below_alloc | apply pw_below_drewN | apply below_drew1 | refine below_set ?_ GE142.out) | exact HB.out)))); have n1_ := Aside0.mk (blk_below (g := gb142) (o := .cells #[.int .u64 0, .int .u64 0, .int .u8 0, .bool false, .int .u16 0, .int .u16 0, .string (⟨#[]⟩ : ByteArray)] 27 (0, 0)) (by (with_reducible repeat (first | refine blk_drewN ?_ _ | refine blk_drew ?_ | refine blk_alloc ?_ _)); exact BK142.out) hb); have n2_ := Aside0.mk (below_step (by repeat (first | (with_reducible first | exact HB.out | apply below_alloc | apply pw_below_drewN | apply below_drew1 | refine below_set ?_ GE142.out) | exact HB.out)) hb); clear BK142; clear HB; have HO145 := n0_; have BK142 := n1_; have HB := n2_; clear n0_ n1_ n2_; clear hb ho65; obtain ⟨Ao66, co66, eo66⟩ := Kd.R_slice HO145.out; subst eo66) | ((with_reducible refine gate_callee (f := 30) rfl ?_); refine goesL_ (some 16) rfl rfl Try.func30 (by kernel_rfl) rfl #[.string a0, .slice Ao66 y143.length co66] rfl (by (try simp only [List.map_toArray, List.map_cons, List.map_nil]); first | done | rfl | (simp only [List.length_drop, List.length_take]; rfl)) ?_; (with_reducible refine (field_Split.calls k a0 _ _ y143 t146 t147 t148 _ ?side1 ?side2 A5.out).mono ?_); (case side1 => repeat (first | exact (Kd.R_reads' HO145.out).2.2 | (with_reducible refine Kd.C_alloc ?_ _) | (with_reducible refine Kd.C_drewN ?_ _) | (with_reducible refine Kd.C_drew ?_))); (case side2 => exact (Kd.R_reads' HO145.out).2.1); rintro e w67 ⟨v149, rfl, ho0, hb⟩; refine ⟨_, rfl, ?_⟩; have n0_ := Aside0.mk (Kd.R_below (by (with_reducible repeat (first | apply Kd.R_alloc | apply Kd.R_drewN | apply Kd.R_drew)); exact HO145.out) hb); have n1_ := Aside0.mk (Kd.R_lower ho0 (below_size (by repeat (first | (with_reducible first | exact HB.out | apply below_alloc | apply pw_below_drewN | apply below_drew1 | refine below_set ?_ GE142.out) | exact HB.out)))); have n2_ := Aside0.mk (blk_below (g := gb142) (o := .cells #[.int .u64 0, .int .u64 0, .int .u8 0, .bool false, .int .u16 0, .int .u16 0, .string (⟨#[]⟩ : ByteArray)] 27 (0, 0)) (by (with_reducible repeat (first | refine blk_drewN ?_ _ | refine blk_drew ?_ | refine blk_alloc ?_ _)); exact BK142.out) hb); have n3_ := Aside0.mk (below_step (by repeat (first | (with_reducible first | exact HB.out | apply below_alloc | apply pw_below_drewN | apply below_drew1 | refine below_set ?_ GE142.out) | exact HB.out)) hb); clear HO145; clear BK142; clear HB; have HO145 := n0_; have HO150 := n1_; have BK142 := n2_; have HB := n3_; clear n0_ n1_ n2_ n3_; (try clear hb); (try clear hb2); (try clear hk); (try clear hi); (try clear ho0); have hcz68_0 : w67.cell? ⟨gb142, 0, none⟩ = some (.int .u64 0) := (blk_cell BK142.out 0).trans rfl; have hcz68_1 : w67.cell? ⟨gb142, 1, none⟩ = some (.int .u64 0) := (blk_cell BK142.out 1).trans rfl; have hcz68_2 : w67.cell? ⟨gb142, 2, none⟩ = some (.int .u8 0) := (blk_cell BK142.out 2).trans rfl; have hcz68_3 : w67.cell? ⟨gb142, 3, none⟩ = some (.bool false) := (blk_cell BK142.out 3).trans rfl; have hcz68_4 : w67.cell? ⟨gb142, 4, none⟩ = some (.int .u16 0) := (blk_cell BK142.out 4).trans rfl; have hcz68_5 : w67.cell? ⟨gb142, 5, none⟩ = some (.int .u16 0) := (blk_cell BK142.out 5).trans rfl; have hcz68_6 : w67.cell? ⟨gb142, 6, none⟩ = some (.string (⟨#[]⟩ : ByteArray)) := (blk_cell BK142.out 6).trans rfl; have hfz68_0 := blk_frozen BK142.out 0; have hfz68_1 := blk_frozen BK142.out 1; have hfz68_2 := blk_frozen BK142.out 2; have hfz68_3 := blk_frozen BK142.out 3; have hfz68_4 := blk_frozen BK142.out 4; have hfz68_5 := blk_frozen BK142.out 5; have hfz68_6 := blk_frozen BK142.out 6))
      refine bodyPost_ret (results_ct rfl _ _ gb142 27 #[.int .u64 0, .int .u64 0, .int .u8 0, .bool false, .int .u16 0, .int .u16 0, .string (⟨#[]⟩ : ByteArray)] (0, 0) _ rfl (by (with_reducible repeat (first | refine blk_drewN ?_ _ | refine blk_drew ?_ | refine blk_alloc ?_ _)); refine blk_put (cs := #[.int .u64 0, .int .u64 0, .int .u8 0, .bool false, .int .u16 0, .int .u16 0, .string (⟨#[]⟩ : ByteArray)]) ?_ 6 _ rfl; (with_reducible repeat (first | refine blk_drewN ?_ _ | refine blk_drew ?_ | refine blk_alloc ?_ _)); refine blk_put (cs := #[.int .u64 0, .int .u64 0, .int .u8 0, .bool false, .int .u16 0, .int .u16 0, .string (⟨#[]⟩ : ByteArray)]) ?_ 5 _ rfl; (with_reducible repeat (first | refine blk_drewN ?_ _ | refine blk_drew ?_ | refine blk_alloc ?_ _)); refine blk_put (cs := #[.int .u64 0, .int .u64 0, .int .u8 0, .bool false, .int .u16 0, .int .u16 0, .string (⟨#[]⟩ : ByteArray)]) ?_ 4 _ rfl; (with_reducible repeat (first | refine blk_drewN ?_ _ | refine blk_drew ?_ | refine blk_alloc ?_ _)); refine blk_put (cs := #[.int .u64 0, .int .u64 0, .int .u8 0, .bool false, .int .u16 0, .int .u16 0, .string (⟨#[]⟩ : ByteArray)]) ?_ 3 _ rfl; (with_reducible repeat (first | refine blk_drewN ?_ _ | refine blk_drew ?_ | refine blk_alloc ?_ _)); refine blk_put (cs := #[.int .u64 0, .int .u64 0, .int .u8 0, .bool false, .int .u16 0, .int .u16 0, .string (⟨#[]⟩ : ByteArray)]) ?_ 2 _ rfl; (with_reducible repeat (first | refine blk_drewN ?_ _ | refine blk_drew ?_ | refine blk_alloc ?_ _)); refine blk_put (cs := #[.int .u64 0, .int .u64 0, .int .u8 0, .bool false, .int .u16 0, .int .u16 0, .string (⟨#[]⟩ : ByteArray)]) ?_ 1 _ rfl; (with_reducible repeat (first | refine blk_drewN ?_ _ | refine blk_drew ?_ | refine blk_alloc ?_ _)); refine blk_put (cs := #[.int .u64 0, .int .u64 0, .int .u8 0, .bool false, .int .u16 0, .int .u16 0, .string (⟨#[]⟩ : ByteArray)]) ?_ 0 _ rfl; (with_reducible repeat (first | refine blk_drewN ?_ _ | refine blk_drew ?_ | refine blk_alloc ?_ _)); exact BK142.out) Try.underlying27 rfl (by kernel_rfl)) rfl ?_
      exact ⟨by first | rfl | (simp [errW_none, errW_some] <;> rfl) | (simp [*, errW_none, errW_some] <;> rfl), by repeat (first | (with_reducible first | exact HB.out | apply below_alloc | apply pw_below_drewN | apply below_drew1 | refine below_set ?_ GE142.out) | exact HB.out)⟩

end Go.Proofs.Ytmdaaphjndjakae.PAll
