-- Written by a program of this work, after the translation.
import Derived.Test.YtbciaapkahfcaaaPFlushHearsx0
import Derived.Test.YtbciaapkahfcaaaPFlushHearsx4
import Derived.Test.YtbciaapkahfcaaaPFlushHearsx5
namespace Go.Proofs.Ytbciaapkahfcaaa.PFlushHears
open Go.RowKit Go.Proofs.YtbciaapkahfcaaaW.PrintWords Go.Proofs.YtbciaapkahfcaaaW.PrintLast Go.Proofs.YtbciaapkahfcaaaW.PrintMore
attribute [local go_sem] max2_int min2_int max_two min_two max_three min_three max_four min_four   -- for this text's walks alone
set_option linter.unusedVariables false
set_option linter.unusedSimpArgs false

/-! ### raps_Close: function 12 -/
def raps_Close.f (k : Nat) (a0_0 : Int) (a0_1 : Bool) (a0_2 : Bool) (a0_3 : Bool) (a0_4 : Int) (a1 : Int) : Option (ByteArray × Int) := if a1 > 7 then (some ((⟨#[]⟩ : ByteArray), 4)) else ((raps_Msg_wrong.f k a0_0 a0_1 a0_2 a0_3 a0_4).bind fun t120 => (if t120 = 0 then ((some (([(⟨4, IntKind.u64.wrap (a0_0)⟩ : S55), (⟨4, 0⟩ : S55)] : List (S55)) : List (S55))).bind fun y121 => ((raps_bits.f k (([a0_1, a0_2, a0_3] : List Bool))).bind fun t127 => (if y121.length + t127.length < 8796093022208 then ((some (y121 ++ t127 : List (S55))).bind fun y130 => ((some (([(⟨5, 0⟩ : S55), (⟨48, a0_4⟩ : S55), (⟨64, 0⟩ : S55), (⟨64, 0⟩ : S55), (⟨64, 0⟩ : S55)] : List (S55)) : List (S55))).bind fun y133 => (if y130.length + y133.length < 8796093022208 then ((field_Pack.f (y130 ++ y133)).bind fun bt139 => (if bt139.2 = 0 then ((oam_Close.f a1 1 40 0 32 bt139.1).bind fun bt141 => (some (bt141.1, bt141.2))) else (some ((⟨#[]⟩ : ByteArray), bt139.2)))) else (none)))) else (none)))) else (some ((⟨#[]⟩ : ByteArray), t120))))
theorem raps_Close.mono : ∀ a0 a1 a2 a3 a4 a5 k, LeO (raps_Close.f k a0 a1 a2 a3 a4 a5) (raps_Close.f (k + 1) a0 a1 a2 a3 a4 a5) := by
  intro a0 a1 a2 a3 a4 a5 k
  unfold raps_Close.f
  repeat' first
      | (with_reducible exact raps_Msg_wrong.mono _ _ _ _ _ _)
      | (with_reducible exact raps_bits.mono _ _)
      | (with_reducible exact LeO.refl _)
      | (with_reducible exact LeO.none _)
      | (with_reducible refine LeO.ite ?_ ?_)
      | (with_reducible refine LeO.bind ?_ (fun _ => ?_))
      | exact raps_Msg_wrong.mono _ _ _ _ _ _
      | exact raps_bits.mono _ _
      | exact LeO.none _
      | refine LeO.ite ?_ ?_
      | refine LeO.bind ?_ (fun _ => ?_)
def raps_Close.T6 : Bool × List (List Nat × List Nat) := (true, [([], []), ([0], [0]), ([1], [1]), ([2], [2]), ([], []), ([3, 4], [3, 4]), ([], []), ([6], [6]), ([], []), ([8], [8]), ([], []), ([10], [10]), ([7, 9, 11], [7, 9, 11]), ([12], [12]), ([5, 13, 13], [5, 13]), ([14, 14, 0, 1, 2, 3, 4, 5, 6, 7, 8, 9, 10, 11, 12, 13, 14], [14])])
def raps_Close.B6 : List Nat := [0, 1, 3, 7, 0, 31, 0, 64, 0, 256, 0, 1024, 4032, 8128, 16383, 32767]
theorem raps_Close.tab6 : rtab .any (opsOf Try.f12 6) = raps_Close.T6 := by kernel_rfl
theorem raps_Close.bits6 : waitsOk raps_Close.T6.2 raps_Close.B6 = true := by kernel_rfl
set_option maxHeartbeats 8000000 in
set_option maxRecDepth 100000 in
theorem raps_Close.calls (k : Nat) (a0_0 : Int) (a0_1 : Bool) (a0_2 : Bool) (a0_3 : Bool) (a0_4 : Int) (a1 : Int) (r1 : ByteArray) (r2 : Int) (w : World) (h : raps_Close.f k a0_0 a0_1 a0_2 a0_3 a0_4 a1 = some (r1, r2)) :
    Calls Try.prog 12 #[.agg #[.int .u8 a0_0, .bool a0_1, .bool a0_2, .bool a0_3, .int .u64 a0_4], .int .u8 a1] w fun e w' => e = .returned (.tuple #[.string r1, .int .i64 r2]) ∧ Below w.heap.size w w' := by
  have hu35 := Try.underlying35
  have hu55 := Try.underlying55
  have hu60 := Try.underlying60
  have HB := Aside0.mk (Below.refl w.heap.size w)
  have H : (if a1 > 7 then (some ((⟨#[]⟩ : ByteArray), 4)) else ((raps_Msg_wrong.f k a0_0 a0_1 a0_2 a0_3 a0_4).bind fun t120 => (if t120 = 0 then ((some (([(⟨4, IntKind.u64.wrap (a0_0)⟩ : S55), (⟨4, 0⟩ : S55)] : List (S55)) : List (S55))).bind fun y121 => ((raps_bits.f k (([a0_1, a0_2, a0_3] : List Bool))).bind fun t127 => (if y121.length + t127.length < 8796093022208 then ((some (y121 ++ t127 : List (S55))).bind fun y130 => ((some (([(⟨5, 0⟩ : S55), (⟨48, a0_4⟩ : S55), (⟨64, 0⟩ : S55), (⟨64, 0⟩ : S55), (⟨64, 0⟩ : S55)] : List (S55)) : List (S55))).bind fun y133 => (if y130.length + y133.length < 8796093022208 then ((field_Pack.f (y130 ++ y133)).bind fun bt139 => (if bt139.2 = 0 then ((oam_Close.f a1 1 40 0 32 bt139.1).bind fun bt141 => (some (bt141.1, bt141.2))) else (some ((⟨#[]⟩ : ByteArray), bt139.2)))) else (none)))) else (none)))) else (some ((⟨#[]⟩ : ByteArray), t120))))) = some (r1, r2) := h
  clear h
  by_cases c3 : a1 > 7
  · rw [if_pos c3] at H
    have c3b0 : decide (7 < a1) = true := decide_eq_true c3
    clear c3
    simp only [Option.some.injEq, Prod.mk.injEq] at H
    obtain ⟨rfl, rfl⟩ := H
    go_enter Try.func12, Try.ntmps12
    go_wp2_with (first | ((with_reducible refine gate_dst (N := 2) rfl ?_); refine box_event ?hg (N := 2) ?hd (cs := #[.int .u8 a0_0, .bool a0_1, .bool a0_2, .bool a0_3, .int .u64 a0_4]) (t := 35) ?hr ?_; (case hd => rfl); (case hg => rfl); (case hr => first | (go_simp; done) | (go_simp; rfl)); intro gb119 hg w4 hbox hb; have n0_ := Aside0.mk (below_step (by repeat (first | (with_reducible first | exact HB.out | apply below_alloc | apply pw_below_drewN | apply below_drew1) | exact HB.out)) hb); have n1_ := Aside0.mk (hbox); have n2_ := Aside0.mk ((by rw [hg]; exact (below_size (by repeat (first | (with_reducible first | exact HB.out | apply below_alloc | apply pw_below_drewN | apply below_drew1) | exact HB.out))) : w.heap.size ≤ gb119)); have n3_ := Aside0.mk ((by rw [hg]; exact (below_size (by repeat (first | (with_reducible first | exact HB.out | apply below_alloc | apply pw_below_drewN | apply below_drew1) | exact HB.out))) : w.heap.size ≤ gb119)); clear HB; have HB := n0_; have BK119 := n1_; have GW119 := n2_; have GE119 := n3_; clear n0_ n1_ n2_ n3_; clear hb hbox hg))
    go_ret2
    exact ⟨by first | rfl | (simp [errW_none, errW_some] <;> rfl) | (simp [*, errW_none, errW_some] <;> rfl), by repeat (first | (with_reducible first | exact HB.out | apply below_alloc | apply pw_below_drewN | apply below_drew1 | refine below_set ?_ GE119.out) | exact HB.out)⟩
  · rw [if_neg c3] at H
    have c3b0 : decide (7 < a1) = false := decide_eq_false c3
    clear c3
    replace H := Option.bind_eq_some_iff.mp H
    obtain ⟨t120, A50, H⟩ := H
    replace H : (if t120 = 0 then ((some (([(⟨4, IntKind.u64.wrap (a0_0)⟩ : S55), (⟨4, 0⟩ : S55)] : List (S55)) : List (S55))).bind fun y121 => ((raps_bits.f k (([a0_1, a0_2, a0_3] : List Bool))).bind fun t127 => (if y121.length + t127.length < 8796093022208 then ((some (y121 ++ t127 : List (S55))).bind fun y130 => ((some (([(⟨5, 0⟩ : S55), (⟨48, a0_4⟩ : S55), (⟨64, 0⟩ : S55), (⟨64, 0⟩ : S55), (⟨64, 0⟩ : S55)] : List (S55)) : List (S55))).bind fun y133 => (if y130.length + y133.length < 8796093022208 then ((field_Pack.f (y130 ++ y133)).bind fun bt139 => (if bt139.2 = 0 then ((oam_Close.f a1 1 40 0 32 bt139.1).bind fun bt141 => (some (bt141.1, bt141.2))) else (some ((⟨#[]⟩ : ByteArray), bt139.2)))) else (none)))) else (none)))) else (some ((⟨#[]⟩ : ByteArray), t120))) = some (r1, r2) := H
    have A5 := Aside0.mk A50
    clear A50
    by_cases c6 : t120 = 0
    · rw [if_pos c6] at H
      have c6b0 : (t120 == 0) = true := beq_iff_eq.mpr c6
      have c6b1 : (t120 != 0) = false := bne_eq_false_iff_eq.mpr c6
      clear c6
      obtain ⟨y121, hy121⟩ : ∃ y_ : List (S55), y_ = (([(⟨4, IntKind.u64.wrap (a0_0)⟩ : S55), (⟨4, 0⟩ : S55)] : List (S55))) := ⟨_, rfl⟩
      replace H : ((raps_bits.f k (([a0_1, a0_2, a0_3] : List Bool))).bind fun t127 => (if y121.length + t127.length < 8796093022208 then ((some (y121 ++ t127 : List (S55))).bind fun y130 => ((some (([(⟨5, 0⟩ : S55), (⟨48, a0_4⟩ : S55), (⟨64, 0⟩ : S55), (⟨64, 0⟩ : S55), (⟨64, 0⟩ : S55)] : List (S55)) : List (S55))).bind fun y133 => (if y130.length + y133.length < 8796093022208 then ((field_Pack.f (y130 ++ y133)).bind fun bt139 => (if bt139.2 = 0 then ((oam_Close.f a1 1 40 0 32 bt139.1).bind fun bt141 => (some (bt141.1, bt141.2))) else (some ((⟨#[]⟩ : ByteArray), bt139.2)))) else (none)))) else (none))) = some (r1, r2) := by first | (rw [hy121]; with_reducible exact H) | (have H2_ := (Option.bind_some _ _).symm.trans H; rw [hy121]; with_reducible exact H2_) | (have H2_ := (Option.bind_some _ _).symm.trans H; with_reducible exact H2_) | with_reducible exact H | (rw [hy121]; exact H) | exact H
      have Ny121 := Aside0.mk hy121
      clear hy121
      obtain ⟨y124, hy124⟩ : ∃ y_ : List Bool, y_ = (([a0_1, a0_2, a0_3] : List Bool)) := ⟨_, rfl⟩
      replace H : ((raps_bits.f k y124).bind fun t127 => (if y121.length + t127.length < 8796093022208 then ((some (y121 ++ t127 : List (S55))).bind fun y130 => ((some (([(⟨5, 0⟩ : S55), (⟨48, a0_4⟩ : S55), (⟨64, 0⟩ : S55), (⟨64, 0⟩ : S55), (⟨64, 0⟩ : S55)] : List (S55)) : List (S55))).bind fun y133 => (if y130.length + y133.length < 8796093022208 then ((field_Pack.f (y130 ++ y133)).bind fun bt139 => (if bt139.2 = 0 then ((oam_Close.f a1 1 40 0 32 bt139.1).bind fun bt141 => (some (bt141.1, bt141.2))) else (some ((⟨#[]⟩ : ByteArray), bt139.2)))) else (none)))) else (none))) = some (r1, r2) := by first | (rw [hy124]; with_reducible exact H) | (have H2_ := (Option.bind_some _ _).symm.trans H; rw [hy124]; with_reducible exact H2_) | (have H2_ := (Option.bind_some _ _).symm.trans H; with_reducible exact H2_) | with_reducible exact H | (rw [hy124]; exact H) | exact H
      have Ny124 := Aside0.mk hy124
      clear hy124
      replace H := Option.bind_eq_some_iff.mp H
      obtain ⟨t127, A70, H⟩ := H
      replace H : (if y121.length + t127.length < 8796093022208 then ((some (y121 ++ t127 : List (S55))).bind fun y130 => ((some (([(⟨5, 0⟩ : S55), (⟨48, a0_4⟩ : S55), (⟨64, 0⟩ : S55), (⟨64, 0⟩ : S55), (⟨64, 0⟩ : S55)] : List (S55)) : List (S55))).bind fun y133 => (if y130.length + y133.length < 8796093022208 then ((field_Pack.f (y130 ++ y133)).bind fun bt139 => (if bt139.2 = 0 then ((oam_Close.f a1 1 40 0 32 bt139.1).bind fun bt141 => (some (bt141.1, bt141.2))) else (some ((⟨#[]⟩ : ByteArray), bt139.2)))) else (none)))) else (none)) = some (r1, r2) := H
      have A7 := Aside0.mk A70
      clear A70
      by_cases c8 : y121.length + t127.length < 8796093022208
      · rw [if_pos c8] at H
        have LMc8 := Aside0.mk c8
        clear c8
        obtain ⟨y130, hy130⟩ : ∃ y_ : List (S55), y_ = (y121 ++ t127) := ⟨_, rfl⟩
        replace H : ((some (([(⟨5, 0⟩ : S55), (⟨48, a0_4⟩ : S55), (⟨64, 0⟩ : S55), (⟨64, 0⟩ : S55), (⟨64, 0⟩ : S55)] : List (S55)) : List (S55))).bind fun y133 => (if y130.length + y133.length < 8796093022208 then ((field_Pack.f (y130 ++ y133)).bind fun bt139 => (if bt139.2 = 0 then ((oam_Close.f a1 1 40 0 32 bt139.1).bind fun bt141 => (some (bt141.1, bt141.2))) else (some ((⟨#[]⟩ : ByteArray), bt139.2)))) else (none))) = some (r1, r2) := by first | (rw [hy130]; with_reducible exact H) | (have H2_ := (Option.bind_some _ _).symm.trans H; rw [hy130]; with_reducible exact H2_) | (have H2_ := (Option.bind_some _ _).symm.trans H; with_reducible exact H2_) | with_reducible exact H | (rw [hy130]; exact H) | exact H
        have Ny130 := Aside0.mk hy130
        clear hy130
        obtain ⟨y133, hy133⟩ : ∃ y_ : List (S55), y_ = (([(⟨5, 0⟩ : S55), (⟨48, a0_4⟩ : S55), (⟨64, 0⟩ : S55), (⟨64, 0⟩ : S55), (⟨64, 0⟩ : S55)] : List (S55))) := ⟨_, rfl⟩
        replace H : (if y130.length + y133.length < 8796093022208 then ((field_Pack.f (y130 ++ y133)).bind fun bt139 => (if bt139.2 = 0 then ((oam_Close.f a1 1 40 0 32 bt139.1).bind fun bt141 => (some (bt141.1, bt141.2))) else (some ((⟨#[]⟩ : ByteArray), bt139.2)))) else (none)) = some (r1, r2) := by first | (rw [hy133]; with_reducible exact H) | (have H2_ := (Option.bind_some _ _).symm.trans H; rw [hy133]; with_reducible exact H2_) | (have H2_ := (Option.bind_some _ _).symm.trans H; with_reducible exact H2_) | with_reducible exact H | (rw [hy133]; exact H) | exact H
        have Ny133 := Aside0.mk hy133
        clear hy133
        by_cases c9 : y130.length + y133.length < 8796093022208
        · rw [if_pos c9] at H
          have LMc9 := Aside0.mk c9
          clear c9
          obtain ⟨y136, hy136⟩ : ∃ y_ : List (S55), y_ = (y130 ++ y133) := ⟨_, rfl⟩
          replace H : ((field_Pack.f y136).bind fun bt139 => (if bt139.2 = 0 then ((oam_Close.f a1 1 40 0 32 bt139.1).bind fun bt141 => (some (bt141.1, bt141.2))) else (some ((⟨#[]⟩ : ByteArray), bt139.2)))) = some (r1, r2) := by first | (rw [hy136]; with_reducible exact H) | (have H2_ := (Option.bind_some _ _).symm.trans H; rw [hy136]; with_reducible exact H2_) | (have H2_ := (Option.bind_some _ _).symm.trans H; with_reducible exact H2_) | with_reducible exact H | (rw [hy136]; exact H) | exact H
          have Ny136 := Aside0.mk hy136
          clear hy136
          replace H := Option.bind_eq_some_iff.mp H
          obtain ⟨⟨t139, t140⟩, A100, H⟩ := H
          replace H : (if t140 = 0 then ((oam_Close.f a1 1 40 0 32 t139).bind fun bt141 => (some (bt141.1, bt141.2))) else (some ((⟨#[]⟩ : ByteArray), t140))) = some (r1, r2) := H
          have A10 := Aside0.mk A100
          clear A100
          by_cases c11 : t140 = 0
          · rw [if_pos c11] at H
            have c11b0 : (t140 == 0) = true := beq_iff_eq.mpr c11
            have c11b1 : (t140 != 0) = false := bne_eq_false_iff_eq.mpr c11
            clear c11
            replace H := Option.bind_eq_some_iff.mp H
            obtain ⟨⟨t141, t142⟩, A120, H⟩ := H
            replace H : (some (t141, t142)) = some (r1, r2) := H
            have A12 := Aside0.mk A120
            clear A120
            simp only [Option.some.injEq, Prod.mk.injEq] at H
            obtain ⟨rfl, rfl⟩ := H
            go_enter Try.func12, Try.ntmps12
            try go_wp2_with (first | ((with_reducible refine gate_dst (N := 2) rfl ?_); refine box_event ?hg (N := 2) ?hd (cs := #[.int .u8 a0_0, .bool a0_1, .bool a0_2, .bool a0_3, .int .u64 a0_4]) (t := 35) ?hr ?_; (case hd => rfl); (case hg => rfl); (case hr => first | (go_simp; done) | (go_simp; rfl)); intro gb119 hg w13 hbox hb; have n0_ := Aside0.mk (below_step (by repeat (first | (with_reducible first | exact HB.out | apply below_alloc | apply pw_below_drewN | apply below_drew1) | exact HB.out)) hb); have n1_ := Aside0.mk (hbox); have n2_ := Aside0.mk ((by rw [hg]; exact (below_size (by repeat (first | (with_reducible first | exact HB.out | apply below_alloc | apply pw_below_drewN | apply below_drew1) | exact HB.out))) : w.heap.size ≤ gb119)); have n3_ := Aside0.mk ((by rw [hg]; exact (below_size (by repeat (first | (with_reducible first | exact HB.out | apply below_alloc | apply pw_below_drewN | apply below_drew1) | exact HB.out))) : w.heap.size ≤ gb119)); clear HB; have HB := n0_; have BK119 := n1_; have GW119 := n2_; have GE119 := n3_; clear n0_ n1_ n2_ n3_; clear hb hbox hg; have hcz14_0 : w13.cell? ⟨gb119, 0, none⟩ = some (.int .u8 a0_0) := (blk_cell BK119.out 0).trans rfl; have hcz14_1 : w13.cell? ⟨gb119, 1, none⟩ = some (.bool a0_1) := (blk_cell BK119.out 1).trans rfl; have hcz14_2 : w13.cell? ⟨gb119, 2, none⟩ = some (.bool a0_2) := (blk_cell BK119.out 2).trans rfl; have hcz14_3 : w13.cell? ⟨gb119, 3, none⟩ = some (.bool a0_3) := (blk_cell BK119.out 3).trans rfl; have hcz14_4 : w13.cell? ⟨gb119, 4, none⟩ = some (.int .u64 a0_4) := (blk_cell BK119.out 4).trans rfl; have hfz14_0 := blk_frozen BK119.out 0; have hfz14_1 := blk_frozen BK119.out 1; have hfz14_2 := blk_frozen BK119.out 2; have hfz14_3 := blk_frozen BK119.out 3; have hfz14_4 := blk_frozen BK119.out 4) | ((with_reducible refine gate_callee (f := 15) rfl ?_); refine goesL_ (some 13) rfl rfl Try.func15 (by kernel_rfl) rfl #[.agg #[.int .u8 a0_0, .bool a0_1, .bool a0_2, .bool a0_3, .int .u64 a0_4]] rfl (by (try simp only [List.map_toArray, List.map_cons, List.map_nil]); first | done | rfl | (simp only [List.length_drop, List.length_take]; rfl)) ?_; (with_reducible refine (raps_Msg_wrong.calls k a0_0 a0_1 a0_2 a0_3 a0_4 t120 _ A5.out).mono ?_); rintro e w15 ⟨rfl, hb⟩; refine ⟨_, rfl, ?_⟩; have n0_ := Aside0.mk (blk_below (g := gb119) (o := .cells #[.int .u8 a0_0, .bool a0_1, .bool a0_2, .bool a0_3, .int .u64 a0_4] 35 (0, 0)) (by (with_reducible repeat (first | refine blk_drewN ?_ _ | refine blk_drew ?_ | refine blk_alloc ?_ _)); exact BK119.out) hb); have n1_ := Aside0.mk (below_step (by repeat (first | (with_reducible first | exact HB.out | apply below_alloc | apply pw_below_drewN | apply below_drew1 | refine below_set ?_ GE119.out) | exact HB.out)) hb); clear BK119; clear HB; have BK119 := n0_; have HB := n1_; clear n0_ n1_; (try clear hb); (try clear hb2); (try clear hk); (try clear hi)))
            have n0_ := Aside0.mk (blk_drew BK119.out)
            have n1_ := Aside0.mk (below_drew1 HB.out)
            clear BK119
            clear HB
            have BK119 := n0_
            have HB := n1_
            clear n0_ n1_
            refine start_ (n := 16) (S := fun w' => w'.cell? ⟨gb119, 0, none⟩ = some (.int .u8 a0_0) ∧ w'.cell? ⟨gb119, 1, none⟩ = some (.bool a0_1) ∧ w'.cell? ⟨gb119, 2, none⟩ = some (.bool a0_2) ∧ w'.cell? ⟨gb119, 3, none⟩ = some (.bool a0_3) ∧ w'.cell? ⟨gb119, 4, none⟩ = some (.int .u64 a0_4)) (ds := []) #[false, false, false, false, false, false, false, false, false, false, false, false, false, false, false, false] (by kernel_rfl) rfl rfl ⟨(blk_cell BK119.out 0).trans rfl, (blk_cell BK119.out 1).trans rfl, (blk_cell BK119.out 2).trans rfl, (blk_cell BK119.out 3).trans rfl, (blk_cell BK119.out 4).trans rfl⟩ (fun hHeld => ?_); refine with_tabW raps_Close.tab6 raps_Close.bits6 (fun HT_ HW_ => ?_)
            generalize w15.drew = w16 at BK119 HB hHeld ⊢
            refine pure_ (i := 0) (N := some 17) (v := ?_) (a' := ?_) #[true, false, false, false, false, false, false, false, false, false, false, false, false, false, false, false] rfl rfl (any_of HT_.out (by kernel_rfl)) (fun _ _ _ h => h) (Or.inl ⟨by rfl, ?_⟩) ?_ ?_
            rotate_left
            · intro w'
              go_simp
              with_reducible rfl
            rotate_left
            · simp only [Act.put, List.setIfInBounds_toArray, List.set_cons_zero, List.set_cons_succ, i64_w, i32_w]
              rfl
            refine pure_ (i := 4) (N := some 21) (v := ?_) (a' := ?_) #[true, false, false, false, true, false, false, false, false, false, false, false, false, false, false, false] rfl rfl (any_of HT_.out (by kernel_rfl)) (fun _ _ _ h => h) (Or.inl ⟨by rfl, ?_⟩) ?_ ?_
            rotate_left
            · intro w'
              go_simp
              with_reducible rfl
            rotate_left
            · simp only [Act.put, List.setIfInBounds_toArray, List.set_cons_zero, List.set_cons_succ, i64_w, i32_w]
              rfl
            refine pure_ (i := 6) (N := some 23) (v := ?_) (a' := ?_) #[true, false, false, false, true, false, true, false, false, false, false, false, false, false, false, false] rfl rfl (any_of HT_.out (by kernel_rfl)) (fun _ _ _ h => h) (Or.inl ⟨by rfl, ?_⟩) ?_ ?_
            rotate_left
            · intro w'
              go_simp
              with_reducible rfl
            rotate_left
            · simp only [Act.put, List.setIfInBounds_toArray, List.set_cons_zero, List.set_cons_succ, i64_w, i32_w]
              rfl
            refine pure_ (i := 8) (N := some 25) (v := ?_) (a' := ?_) #[true, false, false, false, true, false, true, false, true, false, false, false, false, false, false, false] rfl rfl (any_of HT_.out (by kernel_rfl)) (fun _ _ _ h => h) (Or.inl ⟨by rfl, ?_⟩) ?_ ?_
            rotate_left
            · intro w'
              go_simp
              with_reducible rfl
            rotate_left
            · simp only [Act.put, List.setIfInBounds_toArray, List.set_cons_zero, List.set_cons_succ, i64_w, i32_w]
              rfl
            refine pure_ (i := 10) (N := some 27) (v := ?_) (a' := ?_) #[true, false, false, false, true, false, true, false, true, false, true, false, false, false, false, false] rfl rfl (any_of HT_.out (by kernel_rfl)) (fun _ _ _ h => h) (Or.inl ⟨by rfl, ?_⟩) ?_ ?_
            rotate_left
            · intro w'
              go_simp
              with_reducible rfl
            rotate_left
            · simp only [Act.put, List.setIfInBounds_toArray, List.set_cons_zero, List.set_cons_succ, i64_w, i32_w]
              rfl
            refine take_ (i := 1) (N := some 18) (v := ?_) (a' := ?_) #[true, true, false, false, true, false, true, false, true, false, true, false, false, false, false, false] rfl rfl (take_ofW HT_.out HW_.out (by kernel_rfl)) (fun _ _ _ h => h) (Or.inl ⟨by rfl, ?_⟩) hHeld ?_ ?_
            rotate_left
            · rintro w' ⟨s0, s1, s2, s3, s4⟩
              go_simp
              with_reducible rfl
            rotate_left
            · simp only [Act.put, List.setIfInBounds_toArray, List.set_cons_zero, List.set_cons_succ, i64_w, i32_w]
              rfl
            refine pure_ (i := 2) (N := some 19) (v := ?_) (a' := ?_) #[true, true, true, false, true, false, true, false, true, false, true, false, false, false, false, false] rfl rfl (any_of HT_.out (by kernel_rfl)) (fun _ _ _ h => h) (Or.inl ⟨by rfl, ?_⟩) ?_ ?_
            rotate_left
            · intro w'
              go_simp
              with_reducible rfl
            rotate_left
            · simp only [Act.put, List.setIfInBounds_toArray, List.set_cons_zero, List.set_cons_succ, i64_w, i32_w]
              rfl
            refine pure_ (i := 3) (N := some 20) (v := ?_) (a' := ?_) #[true, true, true, true, true, false, true, false, true, false, true, false, false, false, false, false] rfl rfl (any_of HT_.out (by kernel_rfl)) (fun _ _ _ h => h) (Or.inl ⟨by rfl, ?_⟩) ?_ ?_
            rotate_left
            · intro w'
              go_simp
              with_reducible rfl
            rotate_left
            · simp only [Act.put, List.setIfInBounds_toArray, List.set_cons_zero, List.set_cons_succ, i64_w, i32_w]
              rfl
            refine take_ (i := 7) (N := some 24) (v := ?_) (a' := ?_) #[true, true, true, true, true, false, true, true, true, false, true, false, false, false, false, false] rfl rfl (take_ofW HT_.out HW_.out (by kernel_rfl)) (fun _ _ _ h => h) (Or.inl ⟨by rfl, ?_⟩) hHeld ?_ ?_
            rotate_left
            · rintro w' ⟨s0, s1, s2, s3, s4⟩
              go_simp
              with_reducible rfl
            rotate_left
            · simp only [Act.put, List.setIfInBounds_toArray, List.set_cons_zero, List.set_cons_succ, i64_w, i32_w]
              rfl
            refine take_ (i := 9) (N := some 26) (v := ?_) (a' := ?_) #[true, true, true, true, true, false, true, true, true, true, true, false, false, false, false, false] rfl rfl (take_ofW HT_.out HW_.out (by kernel_rfl)) (fun _ _ _ h => h) (Or.inl ⟨by rfl, ?_⟩) hHeld ?_ ?_
            rotate_left
            · rintro w' ⟨s0, s1, s2, s3, s4⟩
              go_simp
              with_reducible rfl
            rotate_left
            · simp only [Act.put, List.setIfInBounds_toArray, List.set_cons_zero, List.set_cons_succ, i64_w, i32_w]
              rfl
            refine take_ (i := 11) (N := some 28) (v := ?_) (a' := ?_) #[true, true, true, true, true, false, true, true, true, true, true, true, false, false, false, false] rfl rfl (take_ofW HT_.out HW_.out (by kernel_rfl)) (fun _ _ _ h => h) (Or.inl ⟨by rfl, ?_⟩) hHeld ?_ ?_
            rotate_left
            · rintro w' ⟨s0, s1, s2, s3, s4⟩
              go_simp
              with_reducible rfl
            rotate_left
            · simp only [Act.put, List.setIfInBounds_toArray, List.set_cons_zero, List.set_cons_succ, i64_w, i32_w]
              rfl
            refine join_ (σ := Value × Value × Value) 2 #[true, true, true, true, true, true, true, true, true, true, true, true, true, true, false, false] (fun s_ => [(22, s_.1), (29, s_.2.1), (30, s_.2.2)]) (fun s_ w' => (w'.cell? ⟨gb119, 0, none⟩ = some (.int .u8 a0_0) ∧ w'.cell? ⟨gb119, 1, none⟩ = some (.bool a0_1) ∧ w'.cell? ⟨gb119, 2, none⟩ = some (.bool a0_2) ∧ w'.cell? ⟨gb119, 3, none⟩ = some (.bool a0_3) ∧ w'.cell? ⟨gb119, 4, none⟩ = some (.int .u64 a0_4)) ∧ (Kd.R k55 55 w' w.heap.size (fun k_ => some k_ ≠ (s_.2.2 : Value).ownBlock) s_.1 y121) ∧ (Kd.R Kd.bool 4 w' w.heap.size (fun _ => True) s_.2.1 y124) ∧ (Kd.R k55 55 w' w.heap.size (fun k_ => some k_ ≠ (s_.1 : Value).ownBlock) s_.2.2 t127) ∧ (w'.heap[gb119]? = some (.cells #[.int .u8 a0_0, .bool a0_1, .bool a0_2, .bool a0_3, .int .u64 a0_4] 35 (0, 0))) ∧ (Below w.heap.size w w')) ?_ ?_
            rotate_left
            · intro hCont
              refine two_ (i := 5) (j := 12) (Ni := some 22) (Nj := some 29) #[true, true, true, true, true, true, true, true, true, true, true, true, false, false, false, false] #[true, true, true, true, true, false, true, true, true, true, true, true, true, false, false, false] rfl rfl rfl rfl (two_of HT_.out (by kernel_rfl)) (by decide) (by decide) (fun K hK => ?_) (fun K hK => ?_)
              · skip
                refine Kd.R_lit_step k55 _ 55 ?hg (N := 22) ?hd (xs := ([(⟨4, IntKind.u64.wrap (a0_0)⟩ : S55), (⟨4, 0⟩ : S55)] : List (S55))) (inner := [.int .i64 4, .int .u64 (IntKind.u64.wrap (a0_0)), .int .i64 4, .int .u64 0]) (ok := fun _ => True) (okp := fun _ => True) ?hr ?hp (fun _ hk => hk) trivial (Below.refl _ _) (Nat.le_refl _) (by simp) ?_; (case hd => rfl); (case hg => rfl); (case hr => first | (go_simp; done) | (go_simp; rfl)); (case hp => exact (Reps.c2 (show Kd.M k55 _ _ _ (⟨4, IntKind.u64.wrap (a0_0)⟩ : S55) [.int .i64 4, .int .u64 (IntKind.u64.wrap (a0_0))] from (k55_mkM _ _ _ (⟨4, IntKind.u64.wrap (a0_0)⟩ : S55) )) (Reps.c2 (show Kd.M k55 _ _ _ (⟨4, 0⟩ : S55) [.int .i64 4, .int .u64 0] from (k55_mkM _ _ _ (⟨4, 0⟩ : S55) )) (Reps.none _ _))))
                intro v122 w17 ho18 hb hg_ hnew_
                clear hg_ hnew_
                (first | rw [← Ny121.out] at ho18 | (simp only [Int.reduceToNat] at ho18; rw [← Ny121.out] at ho18))
                have n0_ := Aside0.mk (Kd.R_lower ho18 (below_size (by repeat (first | (with_reducible first | exact HB.out | apply below_alloc | apply pw_below_drewN | apply below_drew1 | refine below_set ?_ GE119.out) | exact HB.out))))
                have n1_ := Aside0.mk (blk_below (g := gb119) (o := .cells #[.int .u8 a0_0, .bool a0_1, .bool a0_2, .bool a0_3, .int .u64 a0_4] 35 (0, 0)) (by (with_reducible repeat (first | refine blk_drewN ?_ _ | refine blk_drew ?_ | refine blk_alloc ?_ _)); exact BK119.out) hb)
                have n2_ := Aside0.mk (below_step (by repeat (first | (with_reducible first | exact HB.out | apply below_alloc | apply pw_below_drewN | apply below_drew1 | refine below_set ?_ GE119.out) | exact HB.out)) hb)
                clear BK119
                clear HB
                have HO123 := n0_
                have BK119 := n1_
                have HB := n2_
                clear n0_ n1_ n2_
                clear hb ho18
                refine hK.out _ _ ⟨(blk_cell BK119.out 0).trans rfl, (blk_cell BK119.out 1).trans rfl, (blk_cell BK119.out 2).trans rfl, (blk_cell BK119.out 3).trans rfl, (blk_cell BK119.out 4).trans rfl⟩ (fun hHeld => ?_)
                clear hK K
                refine norm_ (a' := ?_) ?_ ?_
                rotate_left
                · show Act.put _ (some 22) _ = _
                  simp only [Act.put, List.setIfInBounds_toArray, List.set_cons_zero, List.set_cons_succ, i64_w, i32_w]
                  rfl
                refine one_ (i := 12) (N := some 29) #[true, true, true, true, true, true, true, true, true, true, true, true, true, false, false, false] rfl rfl (one_of HT_.out (by kernel_rfl)) (by decide) (fun K hK => ?_)
                refine Kd.R_lit_step Kd.bool _ 4 ?hg (N := 29) ?hd (xs := ([a0_1, a0_2, a0_3] : List Bool)) (inner := [.bool a0_1, .bool a0_2, .bool a0_3]) (ok := fun _ => True) (okp := fun _ => True) ?hr ?hp (fun _ hk => hk) trivial (Below.refl _ _) (Nat.le_refl _) (by simp) ?_; (case hd => rfl); (case hg => rfl); (case hr => first | (go_simp; done) | (go_simp; rfl)); (case hp => exact (Reps.one (show Kd.M Kd.bool _ _ _ a0_1 [.bool a0_1] from rfl) (Reps.one (show Kd.M Kd.bool _ _ _ a0_2 [.bool a0_2] from rfl) (Reps.one (show Kd.M Kd.bool _ _ _ a0_3 [.bool a0_3] from rfl) (Reps.none _ _)))))
                intro v125 w19 ho20 hb hg_ hnew_
                clear hg_ hnew_
                (first | rw [← Ny124.out] at ho20 | (simp only [Int.reduceToNat] at ho20; rw [← Ny124.out] at ho20))
                have n0_ := Aside0.mk (Kd.R_below (by (with_reducible repeat (first | apply Kd.R_alloc | apply Kd.R_drewN | apply Kd.R_drew)); exact HO123.out) hb)
                have n1_ := Aside0.mk (Kd.R_lower ho20 (below_size (by repeat (first | (with_reducible first | exact HB.out | apply below_alloc | apply pw_below_drewN | apply below_drew1 | refine below_set ?_ GE119.out) | exact HB.out))))
                have n2_ := Aside0.mk (blk_below (g := gb119) (o := .cells #[.int .u8 a0_0, .bool a0_1, .bool a0_2, .bool a0_3, .int .u64 a0_4] 35 (0, 0)) (by (with_reducible repeat (first | refine blk_drewN ?_ _ | refine blk_drew ?_ | refine blk_alloc ?_ _)); exact BK119.out) hb)
                have n3_ := Aside0.mk (below_step (by repeat (first | (with_reducible first | exact HB.out | apply below_alloc | apply pw_below_drewN | apply below_drew1 | refine below_set ?_ GE119.out) | exact HB.out)) hb)
                clear HO123
                clear BK119
                clear HB
                have HO123 := n0_
                have HO126 := n1_
                have BK119 := n2_
                have HB := n3_
                clear n0_ n1_ n2_ n3_
                clear hb ho20
                obtain ⟨Ao21, co21, eo21⟩ := Kd.R_slice HO126.out
                (first | subst eo21 | (injection eo21 with f1_ f2_ f3_; have f4_ := f1_.symm; have f5_ := f3_.symm; clear f1_ f2_ f3_; subst f4_; subst f5_))
                refine hK.out _ _ ⟨(blk_cell BK119.out 0).trans rfl, (blk_cell BK119.out 1).trans rfl, (blk_cell BK119.out 2).trans rfl, (blk_cell BK119.out 3).trans rfl, (blk_cell BK119.out 4).trans rfl⟩ (fun hHeld => ?_)
                clear hK K
                refine norm_ (a' := ?_) ?_ ?_
                rotate_left
                · show Act.put _ (some 29) _ = _
                  simp only [Act.put, List.setIfInBounds_toArray, List.set_cons_zero, List.set_cons_succ, i64_w, i32_w]
                  rfl
                refine one_ (i := 13) (N := some 30) #[true, true, true, true, true, true, true, true, true, true, true, true, true, true, false, false] rfl rfl (one_of HT_.out (by kernel_rfl)) (by decide) (fun K hK => ?_)
                refine goes_ Try.func16 (by kernel_rfl) rfl #[.slice Ao21 y124.length co21] (by rfl) rfl rfl (by (try simp only [List.map_toArray, List.map_cons, List.map_nil]); first | done | rfl | (simp only [List.length_drop, List.length_take]; rfl)) ?_
                with_reducible refine (raps_bits.calls k _ _ y124 t127 _ ?side1 ?side2 A7.out).mono ?_
                (case side1 => repeat (first | exact (Kd.R_reads' HO126.out).2.2 | (with_reducible refine Kd.C_alloc ?_ _) | (with_reducible refine Kd.C_drewN ?_ _) | (with_reducible refine Kd.C_drew ?_)))
                (case side2 => exact (Kd.R_reads' HO126.out).2.1)
                rintro e w22 ⟨v128, rfl, ho0, hb⟩
                refine ⟨_, rfl, ?_⟩
                have n0_ := Aside0.mk (Kd.R_elder' (by (with_reducible repeat (first | apply Kd.R_alloc | apply Kd.R_drewN | apply Kd.R_drew)); exact HO123.out) (Kd.R_base ho0) hb)
                have n1_ := Aside0.mk (Kd.R_below (by (with_reducible repeat (first | apply Kd.R_alloc | apply Kd.R_drewN | apply Kd.R_drew)); exact HO126.out) hb)
                have n2_ := Aside0.mk (Kd.R_lower (Kd.R_new' ho0 (Kd.R_lt (by (with_reducible repeat (first | apply Kd.R_alloc | apply Kd.R_drewN | apply Kd.R_drew)); exact HO123.out))) (below_size (by repeat (first | (with_reducible first | exact HB.out | apply below_alloc | apply pw_below_drewN | apply below_drew1 | refine below_set ?_ GE119.out) | exact HB.out))))
                have n3_ := Aside0.mk (blk_below (g := gb119) (o := .cells #[.int .u8 a0_0, .bool a0_1, .bool a0_2, .bool a0_3, .int .u64 a0_4] 35 (0, 0)) (by (with_reducible repeat (first | refine blk_drewN ?_ _ | refine blk_drew ?_ | refine blk_alloc ?_ _)); exact BK119.out) hb)
                have n4_ := Aside0.mk (below_step (by repeat (first | (with_reducible first | exact HB.out | apply below_alloc | apply pw_below_drewN | apply below_drew1 | refine below_set ?_ GE119.out) | exact HB.out)) hb)
                clear HO123
                clear HO126
                clear BK119
                clear HB
                have HO123 := n0_
                have HO126 := n1_
                have HO129 := n2_
                have BK119 := n3_
                have HB := n4_
                clear n0_ n1_ n2_ n3_ n4_
                (try clear hb)
                (try clear hb2)
                (try clear hk)
                (try clear hi)
                (try clear ho0)
                refine hK.out _ _ ⟨(blk_cell BK119.out 0).trans rfl, (blk_cell BK119.out 1).trans rfl, (blk_cell BK119.out 2).trans rfl, (blk_cell BK119.out 3).trans rfl, (blk_cell BK119.out 4).trans rfl⟩ (fun hHeld => ?_)
                clear hK K
                refine norm_ (a' := ?_) ?_ ?_
                rotate_left
                · show Act.put _ (some 30) _ = _
                  simp only [Act.put, List.setIfInBounds_toArray, List.set_cons_zero, List.set_cons_succ, i64_w, i32_w]
                  rfl
                exact norm_ (by first | (simp only [putAll, Act.put, List.setIfInBounds_toArray, List.set_cons_zero, List.set_cons_succ]; done) | (simp only [putAll, Act.put, List.setIfInBounds_toArray, List.set_cons_zero, List.set_cons_succ]; rfl) | (have hu8_ : ∀ x_ m_ : Int, (IntKind.u8.wrap x_).tmod m_ = x_ % 256 % m_ := (fun x_ m_ => Int.tmod_eq_emod_of_nonneg (Int.emod_nonneg x_ (by decide))); simp only [putAll, Act.put, List.setIfInBounds_toArray, List.set_cons_zero, List.set_cons_succ]; simp only [hu8_]; rfl)) (hCont (v122, .slice Ao21 y124.length co21, v128) _ ⟨hHeld, (by (with_reducible repeat (first | apply Kd.R_alloc | apply Kd.R_drewN | apply Kd.R_drew)); exact Kd.R_mono HO123.out (fun _ hk => hk.2)), (by (with_reducible repeat (first | apply Kd.R_alloc | apply Kd.R_drewN | apply Kd.R_drew)); exact HO126.out), (by (with_reducible repeat (first | apply Kd.R_alloc | apply Kd.R_drewN | apply Kd.R_drew)); exact Kd.R_mono HO129.out (fun _ hk => hk.2)), (by (with_reducible repeat (first | refine blk_drewN ?_ _ | refine blk_drew ?_ | refine blk_alloc ?_ _)); exact BK119.out), (by repeat (first | (with_reducible first | exact HB.out | apply below_alloc | apply pw_below_drewN | apply below_drew1 | refine below_set ?_ GE119.out) | exact HB.out))⟩)
              · skip
                refine Kd.R_lit_step Kd.bool _ 4 ?hg (N := 29) ?hd (xs := ([a0_1, a0_2, a0_3] : List Bool)) (inner := [.bool a0_1, .bool a0_2, .bool a0_3]) (ok := fun _ => True) (okp := fun _ => True) ?hr ?hp (fun _ hk => hk) trivial (Below.refl _ _) (Nat.le_refl _) (by simp) ?_; (case hd => rfl); (case hg => rfl); (case hr => first | (go_simp; done) | (go_simp; rfl)); (case hp => exact (Reps.one (show Kd.M Kd.bool _ _ _ a0_1 [.bool a0_1] from rfl) (Reps.one (show Kd.M Kd.bool _ _ _ a0_2 [.bool a0_2] from rfl) (Reps.one (show Kd.M Kd.bool _ _ _ a0_3 [.bool a0_3] from rfl) (Reps.none _ _)))))
                intro v125 w17 ho18 hb hg_ hnew_
                clear hg_ hnew_
                (first | rw [← Ny124.out] at ho18 | (simp only [Int.reduceToNat] at ho18; rw [← Ny124.out] at ho18))
                have n0_ := Aside0.mk (Kd.R_lower ho18 (below_size (by repeat (first | (with_reducible first | exact HB.out | apply below_alloc | apply pw_below_drewN | apply below_drew1 | refine below_set ?_ GE119.out) | exact HB.out))))
                have n1_ := Aside0.mk (blk_below (g := gb119) (o := .cells #[.int .u8 a0_0, .bool a0_1, .bool a0_2, .bool a0_3, .int .u64 a0_4] 35 (0, 0)) (by (with_reducible repeat (first | refine blk_drewN ?_ _ | refine blk_drew ?_ | refine blk_alloc ?_ _)); exact BK119.out) hb)
                have n2_ := Aside0.mk (below_step (by repeat (first | (with_reducible first | exact HB.out | apply below_alloc | apply pw_below_drewN | apply below_drew1 | refine below_set ?_ GE119.out) | exact HB.out)) hb)
                clear BK119
                clear HB
                have HO126 := n0_
                have BK119 := n1_
                have HB := n2_
                clear n0_ n1_ n2_
                clear hb ho18
                refine hK.out _ _ ⟨(blk_cell BK119.out 0).trans rfl, (blk_cell BK119.out 1).trans rfl, (blk_cell BK119.out 2).trans rfl, (blk_cell BK119.out 3).trans rfl, (blk_cell BK119.out 4).trans rfl⟩ (fun hHeld => ?_)
                clear hK K
                refine norm_ (a' := ?_) ?_ ?_
                rotate_left
                · show Act.put _ (some 29) _ = _
                  simp only [Act.put, List.setIfInBounds_toArray, List.set_cons_zero, List.set_cons_succ, i64_w, i32_w]
                  rfl
                refine two_ (i := 5) (j := 13) (Ni := some 22) (Nj := some 30) #[true, true, true, true, true, true, true, true, true, true, true, true, true, false, false, false] #[true, true, true, true, true, false, true, true, true, true, true, true, true, true, false, false] rfl rfl rfl rfl (two_of HT_.out (by kernel_rfl)) (by decide) (by decide) (fun K hK => ?_) (fun K hK => ?_)
                · skip
                  refine Kd.R_lit_step k55 _ 55 ?hg (N := 22) ?hd (xs := ([(⟨4, IntKind.u64.wrap (a0_0)⟩ : S55), (⟨4, 0⟩ : S55)] : List (S55))) (inner := [.int .i64 4, .int .u64 (IntKind.u64.wrap (a0_0)), .int .i64 4, .int .u64 0]) (ok := fun _ => True) (okp := fun _ => True) ?hr ?hp (fun _ hk => hk) trivial (Below.refl _ _) (Nat.le_refl _) (by simp) ?_; (case hd => rfl); (case hg => rfl); (case hr => first | (go_simp; done) | (go_simp; rfl)); (case hp => exact (Reps.c2 (show Kd.M k55 _ _ _ (⟨4, IntKind.u64.wrap (a0_0)⟩ : S55) [.int .i64 4, .int .u64 (IntKind.u64.wrap (a0_0))] from (k55_mkM _ _ _ (⟨4, IntKind.u64.wrap (a0_0)⟩ : S55) )) (Reps.c2 (show Kd.M k55 _ _ _ (⟨4, 0⟩ : S55) [.int .i64 4, .int .u64 0] from (k55_mkM _ _ _ (⟨4, 0⟩ : S55) )) (Reps.none _ _))))
                  intro v122 w19 ho20 hb hg_ hnew_
                  clear hg_ hnew_
                  (first | rw [← Ny121.out] at ho20 | (simp only [Int.reduceToNat] at ho20; rw [← Ny121.out] at ho20))
                  have n0_ := Aside0.mk (Kd.R_below (by (with_reducible repeat (first | apply Kd.R_alloc | apply Kd.R_drewN | apply Kd.R_drew)); exact HO126.out) hb)
                  have n1_ := Aside0.mk (Kd.R_lower ho20 (below_size (by repeat (first | (with_reducible first | exact HB.out | apply below_alloc | apply pw_below_drewN | apply below_drew1 | refine below_set ?_ GE119.out) | exact HB.out))))
                  have n2_ := Aside0.mk (blk_below (g := gb119) (o := .cells #[.int .u8 a0_0, .bool a0_1, .bool a0_2, .bool a0_3, .int .u64 a0_4] 35 (0, 0)) (by (with_reducible repeat (first | refine blk_drewN ?_ _ | refine blk_drew ?_ | refine blk_alloc ?_ _)); exact BK119.out) hb)
                  have n3_ := Aside0.mk (below_step (by repeat (first | (with_reducible first | exact HB.out | apply below_alloc | apply pw_below_drewN | apply below_drew1 | refine below_set ?_ GE119.out) | exact HB.out)) hb)
                  clear HO126
                  clear BK119
                  clear HB
                  have HO126 := n0_
                  have HO123 := n1_
                  have BK119 := n2_
                  have HB := n3_
                  clear n0_ n1_ n2_ n3_
                  clear hb ho20
                  obtain ⟨Ao21, co21, eo21⟩ := Kd.R_slice HO126.out
                  (first | subst eo21 | (injection eo21 with f1_ f2_ f3_; have f4_ := f1_.symm; have f5_ := f3_.symm; clear f1_ f2_ f3_; subst f4_; subst f5_))
                  refine hK.out _ _ ⟨(blk_cell BK119.out 0).trans rfl, (blk_cell BK119.out 1).trans rfl, (blk_cell BK119.out 2).trans rfl, (blk_cell BK119.out 3).trans rfl, (blk_cell BK119.out 4).trans rfl⟩ (fun hHeld => ?_)
                  clear hK K
                  refine norm_ (a' := ?_) ?_ ?_
                  rotate_left
                  · show Act.put _ (some 22) _ = _
                    simp only [Act.put, List.setIfInBounds_toArray, List.set_cons_zero, List.set_cons_succ, i64_w, i32_w]
                    rfl
                  refine one_ (i := 13) (N := some 30) #[true, true, true, true, true, true, true, true, true, true, true, true, true, true, false, false] rfl rfl (one_of HT_.out (by kernel_rfl)) (by decide) (fun K hK => ?_)
                  refine goes_ Try.func16 (by kernel_rfl) rfl #[.slice Ao21 y124.length co21] (by rfl) rfl rfl (by (try simp only [List.map_toArray, List.map_cons, List.map_nil]); first | done | rfl | (simp only [List.length_drop, List.length_take]; rfl)) ?_
                  with_reducible refine (raps_bits.calls k _ _ y124 t127 _ ?side1 ?side2 A7.out).mono ?_
                  (case side1 => repeat (first | exact (Kd.R_reads' HO126.out).2.2 | (with_reducible refine Kd.C_alloc ?_ _) | (with_reducible refine Kd.C_drewN ?_ _) | (with_reducible refine Kd.C_drew ?_)))
                  (case side2 => exact (Kd.R_reads' HO126.out).2.1)
                  rintro e w22 ⟨v128, rfl, ho0, hb⟩
                  refine ⟨_, rfl, ?_⟩
                  have n0_ := Aside0.mk (Kd.R_below (by (with_reducible repeat (first | apply Kd.R_alloc | apply Kd.R_drewN | apply Kd.R_drew)); exact HO126.out) hb)
                  have n1_ := Aside0.mk (Kd.R_elder' (by (with_reducible repeat (first | apply Kd.R_alloc | apply Kd.R_drewN | apply Kd.R_drew)); exact HO123.out) (Kd.R_base ho0) hb)
                  have n2_ := Aside0.mk (Kd.R_lower (Kd.R_new' ho0 (Kd.R_lt (by (with_reducible repeat (first | apply Kd.R_alloc | apply Kd.R_drewN | apply Kd.R_drew)); exact HO123.out))) (below_size (by repeat (first | (with_reducible first | exact HB.out | apply below_alloc | apply pw_below_drewN | apply below_drew1 | refine below_set ?_ GE119.out) | exact HB.out))))
                  have n3_ := Aside0.mk (blk_below (g := gb119) (o := .cells #[.int .u8 a0_0, .bool a0_1, .bool a0_2, .bool a0_3, .int .u64 a0_4] 35 (0, 0)) (by (with_reducible repeat (first | refine blk_drewN ?_ _ | refine blk_drew ?_ | refine blk_alloc ?_ _)); exact BK119.out) hb)
                  have n4_ := Aside0.mk (below_step (by repeat (first | (with_reducible first | exact HB.out | apply below_alloc | apply pw_below_drewN | apply below_drew1 | refine below_set ?_ GE119.out) | exact HB.out)) hb)
                  clear HO126
                  clear HO123
                  clear BK119
                  clear HB
                  have HO126 := n0_
                  have HO123 := n1_
                  have HO129 := n2_
                  have BK119 := n3_
                  have HB := n4_
                  clear n0_ n1_ n2_ n3_ n4_
                  (try clear hb)
                  (try clear hb2)
                  (try clear hk)
                  (try clear hi)
                  (try clear ho0)
                  refine hK.out _ _ ⟨(blk_cell BK119.out 0).trans rfl, (blk_cell BK119.out 1).trans rfl, (blk_cell BK119.out 2).trans rfl, (blk_cell BK119.out 3).trans rfl, (blk_cell BK119.out 4).trans rfl⟩ (fun hHeld => ?_)
                  clear hK K
                  refine norm_ (a' := ?_) ?_ ?_
                  rotate_left
                  · show Act.put _ (some 30) _ = _
                    simp only [Act.put, List.setIfInBounds_toArray, List.set_cons_zero, List.set_cons_succ, i64_w, i32_w]
                    rfl
                  exact norm_ (by first | (simp only [putAll, Act.put, List.setIfInBounds_toArray, List.set_cons_zero, List.set_cons_succ]; done) | (simp only [putAll, Act.put, List.setIfInBounds_toArray, List.set_cons_zero, List.set_cons_succ]; rfl) | (have hu8_ : ∀ x_ m_ : Int, (IntKind.u8.wrap x_).tmod m_ = x_ % 256 % m_ := (fun x_ m_ => Int.tmod_eq_emod_of_nonneg (Int.emod_nonneg x_ (by decide))); simp only [putAll, Act.put, List.setIfInBounds_toArray, List.set_cons_zero, List.set_cons_succ]; simp only [hu8_]; rfl)) (hCont (v122, .slice Ao21 y124.length co21, v128) _ ⟨hHeld, (by (with_reducible repeat (first | apply Kd.R_alloc | apply Kd.R_drewN | apply Kd.R_drew)); exact Kd.R_mono HO123.out (fun _ hk => hk.2)), (by (with_reducible repeat (first | apply Kd.R_alloc | apply Kd.R_drewN | apply Kd.R_drew)); exact HO126.out), (by (with_reducible repeat (first | apply Kd.R_alloc | apply Kd.R_drewN | apply Kd.R_drew)); exact Kd.R_mono HO129.out (fun _ hk => hk.2)), (by (with_reducible repeat (first | refine blk_drewN ?_ _ | refine blk_drew ?_ | refine blk_alloc ?_ _)); exact BK119.out), (by repeat (first | (with_reducible first | exact HB.out | apply below_alloc | apply pw_below_drewN | apply below_drew1 | refine below_set ?_ GE119.out) | exact HB.out))⟩)
                · skip
                  obtain ⟨Ao19, co19, eo19⟩ := Kd.R_slice HO126.out
                  (first | subst eo19 | (injection eo19 with f1_ f2_ f3_; have f4_ := f1_.symm; have f5_ := f3_.symm; clear f1_ f2_ f3_; subst f4_; subst f5_))
                  refine goes_ Try.func16 (by kernel_rfl) rfl #[.slice Ao19 y124.length co19] (by rfl) rfl rfl (by (try simp only [List.map_toArray, List.map_cons, List.map_nil]); first | done | rfl | (simp only [List.length_drop, List.length_take]; rfl)) ?_
                  with_reducible refine (raps_bits.calls k _ _ y124 t127 _ ?side1 ?side2 A7.out).mono ?_
                  (case side1 => repeat (first | exact (Kd.R_reads' HO126.out).2.2 | (with_reducible refine Kd.C_alloc ?_ _) | (with_reducible refine Kd.C_drewN ?_ _) | (with_reducible refine Kd.C_drew ?_)))
                  (case side2 => exact (Kd.R_reads' HO126.out).2.1)
                  rintro e w20 ⟨v128, rfl, ho0, hb⟩
                  refine ⟨_, rfl, ?_⟩
                  have n0_ := Aside0.mk (Kd.R_below (by (with_reducible repeat (first | apply Kd.R_alloc | apply Kd.R_drewN | apply Kd.R_drew)); exact HO126.out) hb)
                  have n1_ := Aside0.mk (Kd.R_lower ho0 (below_size (by repeat (first | (with_reducible first | exact HB.out | apply below_alloc | apply pw_below_drewN | apply below_drew1 | refine below_set ?_ GE119.out) | exact HB.out))))
                  have n2_ := Aside0.mk (blk_below (g := gb119) (o := .cells #[.int .u8 a0_0, .bool a0_1, .bool a0_2, .bool a0_3, .int .u64 a0_4] 35 (0, 0)) (by (with_reducible repeat (first | refine blk_drewN ?_ _ | refine blk_drew ?_ | refine blk_alloc ?_ _)); exact BK119.out) hb)
                  have n3_ := Aside0.mk (below_step (by repeat (first | (with_reducible first | exact HB.out | apply below_alloc | apply pw_below_drewN | apply below_drew1 | refine below_set ?_ GE119.out) | exact HB.out)) hb)
                  clear HO126
                  clear BK119
                  clear HB
                  have HO126 := n0_
                  have HO129 := n1_
                  have BK119 := n2_
                  have HB := n3_
                  clear n0_ n1_ n2_ n3_
                  (try clear hb)
                  (try clear hb2)
                  (try clear hk)
                  (try clear hi)
                  (try clear ho0)
                  refine hK.out _ _ ⟨(blk_cell BK119.out 0).trans rfl, (blk_cell BK119.out 1).trans rfl, (blk_cell BK119.out 2).trans rfl, (blk_cell BK119.out 3).trans rfl, (blk_cell BK119.out 4).trans rfl⟩ (fun hHeld => ?_)
                  clear hK K
                  refine norm_ (a' := ?_) ?_ ?_
                  rotate_left
                  · show Act.put _ (some 30) _ = _
                    simp only [Act.put, List.setIfInBounds_toArray, List.set_cons_zero, List.set_cons_succ, i64_w, i32_w]
                    rfl
                  refine one_ (i := 5) (N := some 22) #[true, true, true, true, true, true, true, true, true, true, true, true, true, true, false, false] rfl rfl (one_of HT_.out (by kernel_rfl)) (by decide) (fun K hK => ?_)
                  refine Kd.R_lit_step k55 _ 55 ?hg (N := 22) ?hd (xs := ([(⟨4, IntKind.u64.wrap (a0_0)⟩ : S55), (⟨4, 0⟩ : S55)] : List (S55))) (inner := [.int .i64 4, .int .u64 (IntKind.u64.wrap (a0_0)), .int .i64 4, .int .u64 0]) (ok := fun _ => True) (okp := fun _ => True) ?hr ?hp (fun _ hk => hk) trivial (Below.refl _ _) (Nat.le_refl _) (by simp) ?_; (case hd => rfl); (case hg => rfl); (case hr => first | (go_simp; done) | (go_simp; rfl)); (case hp => exact (Reps.c2 (show Kd.M k55 _ _ _ (⟨4, IntKind.u64.wrap (a0_0)⟩ : S55) [.int .i64 4, .int .u64 (IntKind.u64.wrap (a0_0))] from (k55_mkM _ _ _ (⟨4, IntKind.u64.wrap (a0_0)⟩ : S55) )) (Reps.c2 (show Kd.M k55 _ _ _ (⟨4, 0⟩ : S55) [.int .i64 4, .int .u64 0] from (k55_mkM _ _ _ (⟨4, 0⟩ : S55) )) (Reps.none _ _))))
                  intro v122 w21 ho22 hb hg_ hnew_
                  clear hg_ hnew_
                  (first | rw [← Ny121.out] at ho22 | (simp only [Int.reduceToNat] at ho22; rw [← Ny121.out] at ho22))
                  have n0_ := Aside0.mk (Kd.R_below (by (with_reducible repeat (first | apply Kd.R_alloc | apply Kd.R_drewN | apply Kd.R_drew)); exact HO126.out) hb)
                  have n1_ := Aside0.mk (Kd.R_elder' (by (with_reducible repeat (first | apply Kd.R_alloc | apply Kd.R_drewN | apply Kd.R_drew)); exact HO129.out) (Kd.R_base ho22) hb)
                  have n2_ := Aside0.mk (Kd.R_lower (Kd.R_new' ho22 (Kd.R_lt (by (with_reducible repeat (first | apply Kd.R_alloc | apply Kd.R_drewN | apply Kd.R_drew)); exact HO129.out))) (below_size (by repeat (first | (with_reducible first | exact HB.out | apply below_alloc | apply pw_below_drewN | apply below_drew1 | refine below_set ?_ GE119.out) | exact HB.out))))
                  have n3_ := Aside0.mk (blk_below (g := gb119) (o := .cells #[.int .u8 a0_0, .bool a0_1, .bool a0_2, .bool a0_3, .int .u64 a0_4] 35 (0, 0)) (by (with_reducible repeat (first | refine blk_drewN ?_ _ | refine blk_drew ?_ | refine blk_alloc ?_ _)); exact BK119.out) hb)
                  have n4_ := Aside0.mk (below_step (by repeat (first | (with_reducible first | exact HB.out | apply below_alloc | apply pw_below_drewN | apply below_drew1 | refine below_set ?_ GE119.out) | exact HB.out)) hb)
                  clear HO126
                  clear HO129
                  clear BK119
                  clear HB
                  have HO126 := n0_
                  have HO129 := n1_
                  have HO123 := n2_
                  have BK119 := n3_
                  have HB := n4_
                  clear n0_ n1_ n2_ n3_ n4_
                  clear hb ho22
                  refine hK.out _ _ ⟨(blk_cell BK119.out 0).trans rfl, (blk_cell BK119.out 1).trans rfl, (blk_cell BK119.out 2).trans rfl, (blk_cell BK119.out 3).trans rfl, (blk_cell BK119.out 4).trans rfl⟩ (fun hHeld => ?_)
                  clear hK K
                  refine norm_ (a' := ?_) ?_ ?_
                  rotate_left
                  · show Act.put _ (some 22) _ = _
                    simp only [Act.put, List.setIfInBounds_toArray, List.set_cons_zero, List.set_cons_succ, i64_w, i32_w]
                    rfl
                  exact norm_ (by first | (simp only [putAll, Act.put, List.setIfInBounds_toArray, List.set_cons_zero, List.set_cons_succ]; done) | (simp only [putAll, Act.put, List.setIfInBounds_toArray, List.set_cons_zero, List.set_cons_succ]; rfl) | (have hu8_ : ∀ x_ m_ : Int, (IntKind.u8.wrap x_).tmod m_ = x_ % 256 % m_ := (fun x_ m_ => Int.tmod_eq_emod_of_nonneg (Int.emod_nonneg x_ (by decide))); simp only [putAll, Act.put, List.setIfInBounds_toArray, List.set_cons_zero, List.set_cons_succ]; simp only [hu8_]; rfl)) (hCont (v122, .slice Ao19 y124.length co19, v128) _ ⟨hHeld, (by (with_reducible repeat (first | apply Kd.R_alloc | apply Kd.R_drewN | apply Kd.R_drew)); exact Kd.R_mono HO123.out (fun _ hk => hk.2)), (by (with_reducible repeat (first | apply Kd.R_alloc | apply Kd.R_drewN | apply Kd.R_drew)); exact HO126.out), (by (with_reducible repeat (first | apply Kd.R_alloc | apply Kd.R_drewN | apply Kd.R_drew)); exact Kd.R_mono HO129.out (fun _ hk => hk.2)), (by (with_reducible repeat (first | refine blk_drewN ?_ _ | refine blk_drew ?_ | refine blk_alloc ?_ _)); exact BK119.out), (by repeat (first | (with_reducible first | exact HB.out | apply below_alloc | apply pw_below_drewN | apply below_drew1 | refine below_set ?_ GE119.out) | exact HB.out))⟩)
            rintro ⟨v122, v125, v128⟩ w23 ⟨hS_, h0_, h1_, h2_, h3_, h4_⟩
            have n0_ : Aside0 (Kd.R k55 55 w23 w.heap.size (fun k_ => some k_ ≠ (v128 : Value).ownBlock) v122 y121) := ⟨h0_⟩
            have n1_ : Aside0 (Kd.R Kd.bool 4 w23 w.heap.size (fun _ => True) v125 y124) := ⟨h1_⟩
            have n2_ : Aside0 (Kd.R k55 55 w23 w.heap.size (fun k_ => some k_ ≠ (v122 : Value).ownBlock) v128 t127) := ⟨h2_⟩
            have n3_ : Aside0 (w23.heap[gb119]? = some (.cells #[.int .u8 a0_0, .bool a0_1, .bool a0_2, .bool a0_3, .int .u64 a0_4] 35 (0, 0))) := ⟨h3_⟩
            have n4_ : Aside0 (Below w.heap.size w w23) := ⟨h4_⟩
            clear BK119
            clear HB
            clear h0_ h1_ h2_ h3_ h4_
            have HO123 := n0_
            have HO126 := n1_
            have HO129 := n2_
            have BK119 := n3_
            have HB := n4_
            clear n0_ n1_ n2_ n3_ n4_
            have hHeld : w23.cell? ⟨gb119, 0, none⟩ = some (.int .u8 a0_0) ∧ w23.cell? ⟨gb119, 1, none⟩ = some (.bool a0_1) ∧ w23.cell? ⟨gb119, 2, none⟩ = some (.bool a0_2) ∧ w23.cell? ⟨gb119, 3, none⟩ = some (.bool a0_3) ∧ w23.cell? ⟨gb119, 4, none⟩ = some (.int .u64 a0_4) := hS_
            obtain ⟨Ao25, co25, eo25⟩ := Kd.R_slice HO129.out
            (first | subst eo25 | (injection eo25 with f1_ f2_ f3_; have f4_ := f1_.symm; have f5_ := f3_.symm; clear f1_ f2_ f3_; subst f4_; subst f5_))
            refine norm_ (a' := ?_) ?_ ?_
            rotate_left
            · simp only [putAll, Act.put, List.setIfInBounds_toArray, List.set_cons_zero, List.set_cons_succ]
              rfl
            refine one_ (i := 14) (N := some 31) #[true, true, true, true, true, true, true, true, true, true, true, true, true, true, true, false] rfl rfl (one_of HT_.out (by kernel_rfl)) (by decide) (fun K hK => ?_)
            refine Kd.R_append_rows_step k55 (w0 := w) w.heap.size (by rfl) (.tmp 22) (.tmp 30) 53 55 (.agg #[(.int .i64 0), (.int .u64 0)]) 16 rfl Try.underlying53 info55 rfl (by decide) (by omega) v122 y121 t127 _ _ _ (fun k_ => some k_ ≠ (.slice Ao25 t127.length co25 : Value).ownBlock) (fun _ => False) rfl rfl ?aO ?aR (fun _ _ h => h) (fun _ h => h.elim) ?aF ?aB ?aS ?aL ?_
            (case aR => repeat (first | exact (Kd.R_reads' HO129.out).2.2 | (with_reducible refine Kd.C_alloc ?_ _) | (with_reducible refine Kd.C_drewN ?_ _) | (with_reducible refine Kd.C_drew ?_)))
            (case aB => exact (by repeat (first | (with_reducible first | exact HB.out | apply below_alloc | apply pw_below_drewN | apply below_drew1 | refine below_set ?_ GE119.out) | exact HB.out)))
            (case aF => exact (fun k_ hk => Kd.fresh' (Kd.R_lt (by (with_reducible repeat (first | apply Kd.R_alloc | apply Kd.R_drewN | apply Kd.R_drew)); exact HO129.out)) k_ hk))
            (case aO => exact (by (with_reducible repeat (first | apply Kd.R_alloc | apply Kd.R_drewN | apply Kd.R_drew)); exact HO123.out))
            (case aS => exact (below_size (by repeat (first | (with_reducible first | exact HB.out | apply below_alloc | apply pw_below_drewN | apply below_drew1 | refine below_set ?_ GE119.out) | exact HB.out))))
            (case aL => have := LMc8.out; omega)
            intro v131 w24 ho hb hg hat
            rw [← Ny130.out] at ho
            have n0_ := Aside0.mk (blk_grown (g := gb119) (o := .cells #[.int .u8 a0_0, .bool a0_1, .bool a0_2, .bool a0_3, .int .u64 a0_4] 35 (0, 0)) (by (with_reducible repeat (first | refine blk_drewN ?_ _ | refine blk_drew ?_ | refine blk_alloc ?_ _)); exact BK119.out) hg (Kd.R_ne HO123.out BK119.out (by decide)))
            have n1_ := Aside0.mk (Kd.R_over' (by (with_reducible repeat (first | apply Kd.R_alloc | apply Kd.R_drewN | apply Kd.R_drew)); exact HO126.out) (Kd.R_typed (by (with_reducible repeat (first | apply Kd.R_alloc | apply Kd.R_drewN | apply Kd.R_drew)); exact HO123.out)) (by decide) hg)
            have n2_ := Aside0.mk (Kd.R_after (ok := (fun _ => True)) (by (with_reducible repeat (first | apply Kd.R_alloc | apply Kd.R_drewN | apply Kd.R_drew)); exact Kd.R_mono HO129.out (fun _ hk => ⟨trivial, hk⟩)) hg hat)
            have n3_ := Aside0.mk (hb)
            have n4_ := Aside0.mk (ho)
            clear BK119
            clear HO126
            clear HO129
            clear HB
            clear HO123
            have BK119 := n0_
            have HO126 := n1_
            have HO129 := n2_
            have HB := n3_
            have HO132 := n4_
            clear n0_ n1_ n2_ n3_ n4_
            clear ho hb hg hat
            refine hK.out _ _ ⟨(blk_cell BK119.out 0).trans rfl, (blk_cell BK119.out 1).trans rfl, (blk_cell BK119.out 2).trans rfl, (blk_cell BK119.out 3).trans rfl, (blk_cell BK119.out 4).trans rfl⟩ (fun hHeld => ?_)
            clear hK K
            refine norm_ (a' := ?_) ?_ ?_
            rotate_left
            · show Act.put _ (some 31) _ = _
              simp only [Act.put, List.setIfInBounds_toArray, List.set_cons_zero, List.set_cons_succ, i64_w, i32_w]
              rfl
            refine pure_ (i := 15) (N := some 7) (v := ?_) (a' := ?_) #[true, true, true, true, true, true, true, true, true, true, true, true, true, true, true, true] rfl rfl (any_of HT_.out (by kernel_rfl)) (fun _ _ _ h => h) (Or.inl ⟨by rfl, ?_⟩) ?_ ?_
            rotate_left
            · intro w'
              go_simp
              with_reducible rfl
            rotate_left
            · simp only [Act.put, List.setIfInBounds_toArray, List.set_cons_zero, List.set_cons_succ, i64_w, i32_w]
              rfl
            refine done_ (done_of HT_.out (by kernel_rfl)) ?_
            have hcz26_0 : w24.cell? ⟨gb119, 0, none⟩ = some (.int .u8 a0_0) := (blk_cell BK119.out 0).trans rfl
            have hcz26_1 : w24.cell? ⟨gb119, 1, none⟩ = some (.bool a0_1) := (blk_cell BK119.out 1).trans rfl
            have hcz26_2 : w24.cell? ⟨gb119, 2, none⟩ = some (.bool a0_2) := (blk_cell BK119.out 2).trans rfl
            have hcz26_3 : w24.cell? ⟨gb119, 3, none⟩ = some (.bool a0_3) := (blk_cell BK119.out 3).trans rfl
            have hcz26_4 : w24.cell? ⟨gb119, 4, none⟩ = some (.int .u64 a0_4) := (blk_cell BK119.out 4).trans rfl
            have hfz26_0 := blk_frozen BK119.out 0
            have hfz26_1 := blk_frozen BK119.out 1
            have hfz26_2 := blk_frozen BK119.out 2
            have hfz26_3 := blk_frozen BK119.out 3
            have hfz26_4 := blk_frozen BK119.out 4
            try go_wp2_with (first | ((with_reducible refine gate_dst (N := 40) rfl ?_); refine Kd.R_lit k55 _ 55 ?hg (N := 40) ?hd (xs := ([(⟨5, 0⟩ : S55), (⟨48, a0_4⟩ : S55), (⟨64, 0⟩ : S55), (⟨64, 0⟩ : S55), (⟨64, 0⟩ : S55)] : List (S55))) (inner := [.int .i64 5, .int .u64 0, .int .i64 48, .int .u64 a0_4, .int .i64 64, .int .u64 0, .int .i64 64, .int .u64 0, .int .i64 64, .int .u64 0]) (ok := fun _ => True) (okp := fun _ => True) ?hr ?hp (fun _ hk => hk) trivial (Below.refl _ _) (Nat.le_refl _) (by simp) ?_; (case hd => rfl); (case hg => rfl); (case hr => first | (go_simp; done) | (go_simp; rfl)); (case hp => exact (Reps.c2 (show Kd.M k55 _ _ _ (⟨5, 0⟩ : S55) [.int .i64 5, .int .u64 0] from (k55_mkM _ _ _ (⟨5, 0⟩ : S55) )) (Reps.c2 (show Kd.M k55 _ _ _ (⟨48, a0_4⟩ : S55) [.int .i64 48, .int .u64 a0_4] from (k55_mkM _ _ _ (⟨48, a0_4⟩ : S55) )) (Reps.c2 (show Kd.M k55 _ _ _ (⟨64, 0⟩ : S55) [.int .i64 64, .int .u64 0] from (k55_mkM _ _ _ (⟨64, 0⟩ : S55) )) (Reps.c2 (show Kd.M k55 _ _ _ (⟨64, 0⟩ : S55) [.int .i64 64, .int .u64 0] from (k55_mkM _ _ _ (⟨64, 0⟩ : S55) )) (Reps.c2 (show Kd.M k55 _ _ _ (⟨64, 0⟩ : S55) [.int .i64 64, .int .u64 0] from (k55_mkM _ _ _ (⟨64, 0⟩ : S55) )) (Reps.none _ _))))))); intro v134 w27 ho28 hb hg_ hnew_; clear hg_ hnew_; (first | rw [← Ny133.out] at ho28 | (simp only [Int.reduceToNat] at ho28; rw [← Ny133.out] at ho28)); have n0_ := Aside0.mk (Kd.R_below (by (with_reducible repeat (first | apply Kd.R_alloc | apply Kd.R_drewN | apply Kd.R_drew)); exact HO126.out) hb); have n1_ := Aside0.mk (Kd.R_elder' (by (with_reducible repeat (first | apply Kd.R_alloc | apply Kd.R_drewN | apply Kd.R_drew)); exact HO129.out) (Kd.R_base ho28) hb); have n2_ := Aside0.mk (Kd.R_elder' (by (with_reducible repeat (first | apply Kd.R_alloc | apply Kd.R_drewN | apply Kd.R_drew)); exact HO132.out) (Kd.R_base ho28) hb); have n3_ := Aside0.mk (Kd.R_lower (Kd.R_new' (Kd.R_new' ho28 (Kd.R_lt (by (with_reducible repeat (first | apply Kd.R_alloc | apply Kd.R_drewN | apply Kd.R_drew)); exact HO129.out))) (Kd.R_lt (by (with_reducible repeat (first | apply Kd.R_alloc | apply Kd.R_drewN | apply Kd.R_drew)); exact HO132.out))) (below_size (by repeat (first | (with_reducible first | exact HB.out | apply below_alloc | apply pw_below_drewN | apply below_drew1 | refine below_set ?_ GE119.out) | exact HB.out)))); have n4_ := Aside0.mk (blk_below (g := gb119) (o := .cells #[.int .u8 a0_0, .bool a0_1, .bool a0_2, .bool a0_3, .int .u64 a0_4] 35 (0, 0)) (by (with_reducible repeat (first | refine blk_drewN ?_ _ | refine blk_drew ?_ | refine blk_alloc ?_ _)); exact BK119.out) hb); have n5_ := Aside0.mk (below_step (by repeat (first | (with_reducible first | exact HB.out | apply below_alloc | apply pw_below_drewN | apply below_drew1 | refine below_set ?_ GE119.out) | exact HB.out)) hb); clear HO126; clear HO129; clear HO132; clear BK119; clear HB; have HO126 := n0_; have HO129 := n1_; have HO132 := n2_; have HO135 := n3_; have BK119 := n4_; have HB := n5_; clear n0_ n1_ n2_ n3_ n4_ n5_; clear hb ho28; obtain ⟨Ao30, co30, eo30⟩ := Kd.R_slice HO135.out; subst eo30) | ((with_reducible refine gate_builtin (b := .append) (xs := #[.tmp 32, .tmp 40]) rfl ?_); at_builtin; refine Kd.R_append_rows k55 (w0 := w) w.heap.size rfl (.tmp 32) (.tmp 40) 53 55 (.agg #[(.int .i64 0), (.int .u64 0)]) 16 rfl Try.underlying53 info55 rfl (by decide) (by omega) v131 y130 y133 _ _ _ (fun k_ => some k_ ≠ (.slice Ao25 t127.length co25 : Value).ownBlock ∧ some k_ ≠ (.slice Ao30 y133.length co30 : Value).ownBlock) (fun _ => False) rfl rfl ?aO ?aR (fun _ _ h => h) (fun _ h => h.elim) ?aF ?aB ?aS ?aL ?_; (case aR => repeat (first | exact (Kd.R_reads' HO135.out).2.2 | (with_reducible refine Kd.C_alloc ?_ _) | (with_reducible refine Kd.C_drewN ?_ _) | (with_reducible refine Kd.C_drew ?_))); (case aB => exact (by repeat (first | (with_reducible first | exact HB.out | apply below_alloc | apply pw_below_drewN | apply below_drew1 | refine below_set ?_ GE119.out) | exact HB.out))); (case aF => exact (fun k_ hk => ⟨Kd.fresh' (Kd.R_lt (by (with_reducible repeat (first | apply Kd.R_alloc | apply Kd.R_drewN | apply Kd.R_drew)); exact HO129.out)) k_ hk, Kd.fresh' (Kd.R_lt (by (with_reducible repeat (first | apply Kd.R_alloc | apply Kd.R_drewN | apply Kd.R_drew)); exact HO135.out)) k_ hk⟩)); (case aO => exact (by (with_reducible repeat (first | apply Kd.R_alloc | apply Kd.R_drewN | apply Kd.R_drew)); exact HO132.out)); (case aS => exact (below_size (by repeat (first | (with_reducible first | exact HB.out | apply below_alloc | apply pw_below_drewN | apply below_drew1 | refine below_set ?_ GE119.out) | exact HB.out)))); (case aL => have := LMc9.out; omega); intro v137 w29 ho hb hg hat; rw [← Ny136.out] at ho; have n0_ := Aside0.mk (blk_grown (g := gb119) (o := .cells #[.int .u8 a0_0, .bool a0_1, .bool a0_2, .bool a0_3, .int .u64 a0_4] 35 (0, 0)) (by (with_reducible repeat (first | refine blk_drewN ?_ _ | refine blk_drew ?_ | refine blk_alloc ?_ _)); exact BK119.out) hg (Kd.R_ne HO132.out BK119.out (by decide))); have n1_ := Aside0.mk (Kd.R_over' (by (with_reducible repeat (first | apply Kd.R_alloc | apply Kd.R_drewN | apply Kd.R_drew)); exact HO126.out) (Kd.R_typed (by (with_reducible repeat (first | apply Kd.R_alloc | apply Kd.R_drewN | apply Kd.R_drew)); exact HO132.out)) (by decide) hg); have n2_ := Aside0.mk (Kd.R_after (ok := (fun k_ => some k_ ≠ (.slice Ao30 y133.length co30 : Value).ownBlock)) (by (with_reducible repeat (first | apply Kd.R_alloc | apply Kd.R_drewN | apply Kd.R_drew)); exact Kd.R_mono HO129.out (fun _ hk => ⟨hk.2, hk.1.2⟩)) hg hat); have n3_ := Aside0.mk (Kd.R_after (ok := (fun k_ => some k_ ≠ (.slice Ao25 t127.length co25 : Value).ownBlock)) (by (with_reducible repeat (first | apply Kd.R_alloc | apply Kd.R_drewN | apply Kd.R_drew)); exact Kd.R_mono HO135.out (fun _ hk => ⟨hk.1.2, hk.2⟩)) hg hat); have n4_ := Aside0.mk (hb); have n5_ := Aside0.mk (ho); clear BK119; clear HO126; clear HO129; clear HO135; clear HB; clear HO132; have BK119 := n0_; have HO126 := n1_; have HO129 := n2_; have HO135 := n3_; have HB := n4_; have HO138 := n5_; clear n0_ n1_ n2_ n3_ n4_ n5_; clear ho hb hg hat; obtain ⟨Ao31, co31, eo31⟩ := Kd.R_slice HO138.out; subst eo31) | ((with_reducible refine gate_callee (f := 17) rfl ?_); refine goesL_ (some 44) rfl rfl Try.func17 (by kernel_rfl) rfl #[.slice Ao31 y136.length co31] rfl (by (try simp only [List.map_toArray, List.map_cons, List.map_nil]); first | done | rfl | (simp only [List.length_drop, List.length_take]; rfl)) ?_; (with_reducible refine (field_Pack.calls _ _ y136 t139 t140 _ ?side1 ?side2 A10.out).mono ?_); (case side1 => repeat (first | exact (Kd.R_reads' HO138.out).2.2 | (with_reducible refine Kd.C_alloc ?_ _) | (with_reducible refine Kd.C_drewN ?_ _) | (with_reducible refine Kd.C_drew ?_))); (case side2 => exact (Kd.R_reads' HO138.out).2.1); rintro e w32 ⟨rfl, hb⟩; refine ⟨_, rfl, ?_⟩; have n0_ := Aside0.mk (Kd.R_below (by (with_reducible repeat (first | apply Kd.R_alloc | apply Kd.R_drewN | apply Kd.R_drew)); exact HO126.out) hb); have n1_ := Aside0.mk (Kd.R_below (by (with_reducible repeat (first | apply Kd.R_alloc | apply Kd.R_drewN | apply Kd.R_drew)); exact HO129.out) hb); have n2_ := Aside0.mk (Kd.R_below (by (with_reducible repeat (first | apply Kd.R_alloc | apply Kd.R_drewN | apply Kd.R_drew)); exact HO135.out) hb); have n3_ := Aside0.mk (Kd.R_below (by (with_reducible repeat (first | apply Kd.R_alloc | apply Kd.R_drewN | apply Kd.R_drew)); exact HO138.out) hb); have n4_ := Aside0.mk (blk_below (g := gb119) (o := .cells #[.int .u8 a0_0, .bool a0_1, .bool a0_2, .bool a0_3, .int .u64 a0_4] 35 (0, 0)) (by (with_reducible repeat (first | refine blk_drewN ?_ _ | refine blk_drew ?_ | refine blk_alloc ?_ _)); exact BK119.out) hb); have n5_ := Aside0.mk (below_step (by repeat (first | (with_reducible first | exact HB.out | apply below_alloc | apply pw_below_drewN | apply below_drew1 | refine below_set ?_ GE119.out) | exact HB.out)) hb); clear HO126; clear HO129; clear HO135; clear HO138; clear BK119; clear HB; have HO126 := n0_; have HO129 := n1_; have HO135 := n2_; have HO138 := n3_; have BK119 := n4_; have HB := n5_; clear n0_ n1_ n2_ n3_ n4_ n5_; (try clear hb); (try clear hb2); (try clear hk); (try clear hi)) | ((with_reducible refine gate_callee (f := 18) rfl ?_); refine goesL_ (some 53) rfl rfl Try.func18 (by kernel_rfl) rfl #[.agg #[.int .u8 a1, .int .u8 1, .int .u8 40, .int .u8 0, .int .u8 32], .string t139] rfl (by (try simp only [List.map_toArray, List.map_cons, List.map_nil]); first | done | rfl | (simp only [List.length_drop, List.length_take]; rfl)) ?_; (with_reducible refine (oam_Close.calls a1 1 40 0 32 t139 t141 t142 _ A12.out).mono ?_); rintro e w33 ⟨rfl, hb⟩; refine ⟨_, rfl, ?_⟩; have n0_ := Aside0.mk (Kd.R_below (by (with_reducible repeat (first | apply Kd.R_alloc | apply Kd.R_drewN | apply Kd.R_drew)); exact HO126.out) hb); have n1_ := Aside0.mk (Kd.R_below (by (with_reducible repeat (first | apply Kd.R_alloc | apply Kd.R_drewN | apply Kd.R_drew)); exact HO129.out) hb); have n2_ := Aside0.mk (Kd.R_below (by (with_reducible repeat (first | apply Kd.R_alloc | apply Kd.R_drewN | apply Kd.R_drew)); exact HO135.out) hb); have n3_ := Aside0.mk (Kd.R_below (by (with_reducible repeat (first | apply Kd.R_alloc | apply Kd.R_drewN | apply Kd.R_drew)); exact HO138.out) hb); have n4_ := Aside0.mk (blk_below (g := gb119) (o := .cells #[.int .u8 a0_0, .bool a0_1, .bool a0_2, .bool a0_3, .int .u64 a0_4] 35 (0, 0)) (by (with_reducible repeat (first | refine blk_drewN ?_ _ | refine blk_drew ?_ | refine blk_alloc ?_ _)); exact BK119.out) hb); have n5_ := Aside0.mk (below_step (by repeat (first | (with_reducible first | exact HB.out | apply below_alloc | apply pw_below_drewN | apply below_drew1 | refine below_set ?_ GE119.out) | exact HB.out)) hb); clear HO126; clear HO129; clear HO135; clear HO138; clear BK119; clear HB; have HO126 := n0_; have HO129 := n1_; have HO135 := n2_; have HO138 := n3_; have BK119 := n4_; have HB := n5_; clear n0_ n1_ n2_ n3_ n4_ n5_; (try clear hb); (try clear hb2); (try clear hk); (try clear hi)))
            go_ret2
            exact ⟨by first | rfl | (simp [errW_none, errW_some] <;> rfl) | (simp [*, errW_none, errW_some] <;> rfl), by repeat (first | (with_reducible first | exact HB.out | apply below_alloc | apply pw_below_drewN | apply below_drew1 | refine below_set ?_ GE119.out) | exact HB.out)⟩
          · rw [if_neg c11] at H
            have c11b0 : (t140 == 0) = false := beq_eq_false_iff_ne.mpr c11
            have c11b1 : (t140 != 0) = true := bne_iff_ne.mpr c11
            simp only [Option.some.injEq, Prod.mk.injEq] at H
            obtain ⟨rfl, rfl⟩ := H
            go_enter Try.func12, Try.ntmps12
            try go_wp2_with (first | ((with_reducible refine gate_dst (N := 2) rfl ?_); refine box_event ?hg (N := 2) ?hd (cs := #[.int .u8 a0_0, .bool a0_1, .bool a0_2, .bool a0_3, .int .u64 a0_4]) (t := 35) ?hr ?_; (case hd => rfl); (case hg => rfl); (case hr => first | (go_simp; done) | (go_simp; rfl)); intro gb119 hg w34 hbox hb; have n0_ := Aside0.mk (below_step (by repeat (first | (with_reducible first | exact HB.out | apply below_alloc | apply pw_below_drewN | apply below_drew1) | exact HB.out)) hb); have n1_ := Aside0.mk (hbox); have n2_ := Aside0.mk ((by rw [hg]; exact (below_size (by repeat (first | (with_reducible first | exact HB.out | apply below_alloc | apply pw_below_drewN | apply below_drew1) | exact HB.out))) : w.heap.size ≤ gb119)); have n3_ := Aside0.mk ((by rw [hg]; exact (below_size (by repeat (first | (with_reducible first | exact HB.out | apply below_alloc | apply pw_below_drewN | apply below_drew1) | exact HB.out))) : w.heap.size ≤ gb119)); clear HB; have HB := n0_; have BK119 := n1_; have GW119 := n2_; have GE119 := n3_; clear n0_ n1_ n2_ n3_; clear hb hbox hg; have hcz35_0 : w34.cell? ⟨gb119, 0, none⟩ = some (.int .u8 a0_0) := (blk_cell BK119.out 0).trans rfl; have hcz35_1 : w34.cell? ⟨gb119, 1, none⟩ = some (.bool a0_1) := (blk_cell BK119.out 1).trans rfl; have hcz35_2 : w34.cell? ⟨gb119, 2, none⟩ = some (.bool a0_2) := (blk_cell BK119.out 2).trans rfl; have hcz35_3 : w34.cell? ⟨gb119, 3, none⟩ = some (.bool a0_3) := (blk_cell BK119.out 3).trans rfl; have hcz35_4 : w34.cell? ⟨gb119, 4, none⟩ = some (.int .u64 a0_4) := (blk_cell BK119.out 4).trans rfl; have hfz35_0 := blk_frozen BK119.out 0; have hfz35_1 := blk_frozen BK119.out 1; have hfz35_2 := blk_frozen BK119.out 2; have hfz35_3 := blk_frozen BK119.out 3; have hfz35_4 := blk_frozen BK119.out 4) | ((with_reducible refine gate_callee (f := 15) rfl ?_); refine goesL_ (some 13) rfl rfl Try.func15 (by kernel_rfl) rfl #[.agg #[.int .u8 a0_0, .bool a0_1, .bool a0_2, .bool a0_3, .int .u64 a0_4]] rfl (by (try simp only [List.map_toArray, List.map_cons, List.map_nil]); first | done | rfl | (simp only [List.length_drop, List.length_take]; rfl)) ?_; (with_reducible refine (raps_Msg_wrong.calls k a0_0 a0_1 a0_2 a0_3 a0_4 t120 _ A5.out).mono ?_); rintro e w36 ⟨rfl, hb⟩; refine ⟨_, rfl, ?_⟩; have n0_ := Aside0.mk (blk_below (g := gb119) (o := .cells #[.int .u8 a0_0, .bool a0_1, .bool a0_2, .bool a0_3, .int .u64 a0_4] 35 (0, 0)) (by (with_reducible repeat (first | refine blk_drewN ?_ _ | refine blk_drew ?_ | refine blk_alloc ?_ _)); exact BK119.out) hb); have n1_ := Aside0.mk (below_step (by repeat (first | (with_reducible first | exact HB.out | apply below_alloc | apply pw_below_drewN | apply below_drew1 | refine below_set ?_ GE119.out) | exact HB.out)) hb); clear BK119; clear HB; have BK119 := n0_; have HB := n1_; clear n0_ n1_; (try clear hb); (try clear hb2); (try clear hk); (try clear hi)))
            have n0_ := Aside0.mk (blk_drew BK119.out)
            have n1_ := Aside0.mk (below_drew1 HB.out)
            clear BK119
            clear HB
            have BK119 := n0_
            have HB := n1_
            clear n0_ n1_
            refine start_ (n := 16) (S := fun w' => w'.cell? ⟨gb119, 0, none⟩ = some (.int .u8 a0_0) ∧ w'.cell? ⟨gb119, 1, none⟩ = some (.bool a0_1) ∧ w'.cell? ⟨gb119, 2, none⟩ = some (.bool a0_2) ∧ w'.cell? ⟨gb119, 3, none⟩ = some (.bool a0_3) ∧ w'.cell? ⟨gb119, 4, none⟩ = some (.int .u64 a0_4)) (ds := []) #[false, false, false, false, false, false, false, false, false, false, false, false, false, false, false, false] (by kernel_rfl) rfl rfl ⟨(blk_cell BK119.out 0).trans rfl, (blk_cell BK119.out 1).trans rfl, (blk_cell BK119.out 2).trans rfl, (blk_cell BK119.out 3).trans rfl, (blk_cell BK119.out 4).trans rfl⟩ (fun hHeld => ?_); refine with_tabW raps_Close.tab6 raps_Close.bits6 (fun HT_ HW_ => ?_)
            generalize w36.drew = w37 at BK119 HB hHeld ⊢
            refine pure_ (i := 0) (N := some 17) (v := ?_) (a' := ?_) #[true, false, false, false, false, false, false, false, false, false, false, false, false, false, false, false] rfl rfl (any_of HT_.out (by kernel_rfl)) (fun _ _ _ h => h) (Or.inl ⟨by rfl, ?_⟩) ?_ ?_
            rotate_left
            · intro w'
              go_simp
              with_reducible rfl
            rotate_left
            · simp only [Act.put, List.setIfInBounds_toArray, List.set_cons_zero, List.set_cons_succ, i64_w, i32_w]
              rfl
            refine pure_ (i := 4) (N := some 21) (v := ?_) (a' := ?_) #[true, false, false, false, true, false, false, false, false, false, false, false, false, false, false, false] rfl rfl (any_of HT_.out (by kernel_rfl)) (fun _ _ _ h => h) (Or.inl ⟨by rfl, ?_⟩) ?_ ?_
            rotate_left
            · intro w'
              go_simp
              with_reducible rfl
            rotate_left
            · simp only [Act.put, List.setIfInBounds_toArray, List.set_cons_zero, List.set_cons_succ, i64_w, i32_w]
              rfl
            refine pure_ (i := 6) (N := some 23) (v := ?_) (a' := ?_) #[true, false, false, false, true, false, true, false, false, false, false, false, false, false, false, false] rfl rfl (any_of HT_.out (by kernel_rfl)) (fun _ _ _ h => h) (Or.inl ⟨by rfl, ?_⟩) ?_ ?_
            rotate_left
            · intro w'
              go_simp
              with_reducible rfl
            rotate_left
            · simp only [Act.put, List.setIfInBounds_toArray, List.set_cons_zero, List.set_cons_succ, i64_w, i32_w]
              rfl
            refine pure_ (i := 8) (N := some 25) (v := ?_) (a' := ?_) #[true, false, false, false, true, false, true, false, true, false, false, false, false, false, false, false] rfl rfl (any_of HT_.out (by kernel_rfl)) (fun _ _ _ h => h) (Or.inl ⟨by rfl, ?_⟩) ?_ ?_
            rotate_left
            · intro w'
              go_simp
              with_reducible rfl
            rotate_left
            · simp only [Act.put, List.setIfInBounds_toArray, List.set_cons_zero, List.set_cons_succ, i64_w, i32_w]
              rfl
            refine pure_ (i := 10) (N := some 27) (v := ?_) (a' := ?_) #[true, false, false, false, true, false, true, false, true, false, true, false, false, false, false, false] rfl rfl (any_of HT_.out (by kernel_rfl)) (fun _ _ _ h => h) (Or.inl ⟨by rfl, ?_⟩) ?_ ?_
            rotate_left
            · intro w'
              go_simp
              with_reducible rfl
            rotate_left
            · simp only [Act.put, List.setIfInBounds_toArray, List.set_cons_zero, List.set_cons_succ, i64_w, i32_w]
              rfl
            refine take_ (i := 1) (N := some 18) (v := ?_) (a' := ?_) #[true, true, false, false, true, false, true, false, true, false, true, false, false, false, false, false] rfl rfl (take_ofW HT_.out HW_.out (by kernel_rfl)) (fun _ _ _ h => h) (Or.inl ⟨by rfl, ?_⟩) hHeld ?_ ?_
            rotate_left
            · rintro w' ⟨s0, s1, s2, s3, s4⟩
              go_simp
              with_reducible rfl
            rotate_left
            · simp only [Act.put, List.setIfInBounds_toArray, List.set_cons_zero, List.set_cons_succ, i64_w, i32_w]
              rfl
            refine pure_ (i := 2) (N := some 19) (v := ?_) (a' := ?_) #[true, true, true, false, true, false, true, false, true, false, true, false, false, false, false, false] rfl rfl (any_of HT_.out (by kernel_rfl)) (fun _ _ _ h => h) (Or.inl ⟨by rfl, ?_⟩) ?_ ?_
            rotate_left
            · intro w'
              go_simp
              with_reducible rfl
            rotate_left
            · simp only [Act.put, List.setIfInBounds_toArray, List.set_cons_zero, List.set_cons_succ, i64_w, i32_w]
              rfl
            refine pure_ (i := 3) (N := some 20) (v := ?_) (a' := ?_) #[true, true, true, true, true, false, true, false, true, false, true, false, false, false, false, false] rfl rfl (any_of HT_.out (by kernel_rfl)) (fun _ _ _ h => h) (Or.inl ⟨by rfl, ?_⟩) ?_ ?_
            rotate_left
            · intro w'
              go_simp
              with_reducible rfl
            rotate_left
            · simp only [Act.put, List.setIfInBounds_toArray, List.set_cons_zero, List.set_cons_succ, i64_w, i32_w]
              rfl
            refine take_ (i := 7) (N := some 24) (v := ?_) (a' := ?_) #[true, true, true, true, true, false, true, true, true, false, true, false, false, false, false, false] rfl rfl (take_ofW HT_.out HW_.out (by kernel_rfl)) (fun _ _ _ h => h) (Or.inl ⟨by rfl, ?_⟩) hHeld ?_ ?_
            rotate_left
            · rintro w' ⟨s0, s1, s2, s3, s4⟩
              go_simp
              with_reducible rfl
            rotate_left
            · simp only [Act.put, List.setIfInBounds_toArray, List.set_cons_zero, List.set_cons_succ, i64_w, i32_w]
              rfl
            refine take_ (i := 9) (N := some 26) (v := ?_) (a' := ?_) #[true, true, true, true, true, false, true, true, true, true, true, false, false, false, false, false] rfl rfl (take_ofW HT_.out HW_.out (by kernel_rfl)) (fun _ _ _ h => h) (Or.inl ⟨by rfl, ?_⟩) hHeld ?_ ?_
            rotate_left
            · rintro w' ⟨s0, s1, s2, s3, s4⟩
              go_simp
              with_reducible rfl
            rotate_left
            · simp only [Act.put, List.setIfInBounds_toArray, List.set_cons_zero, List.set_cons_succ, i64_w, i32_w]
              rfl
            refine take_ (i := 11) (N := some 28) (v := ?_) (a' := ?_) #[true, true, true, true, true, false, true, true, true, true, true, true, false, false, false, false] rfl rfl (take_ofW HT_.out HW_.out (by kernel_rfl)) (fun _ _ _ h => h) (Or.inl ⟨by rfl, ?_⟩) hHeld ?_ ?_
            rotate_left
            · rintro w' ⟨s0, s1, s2, s3, s4⟩
              go_simp
              with_reducible rfl
            rotate_left
            · simp only [Act.put, List.setIfInBounds_toArray, List.set_cons_zero, List.set_cons_succ, i64_w, i32_w]
              rfl
            refine join_ (σ := Value × Value × Value) 2 #[true, true, true, true, true, true, true, true, true, true, true, true, true, true, false, false] (fun s_ => [(22, s_.1), (29, s_.2.1), (30, s_.2.2)]) (fun s_ w' => (w'.cell? ⟨gb119, 0, none⟩ = some (.int .u8 a0_0) ∧ w'.cell? ⟨gb119, 1, none⟩ = some (.bool a0_1) ∧ w'.cell? ⟨gb119, 2, none⟩ = some (.bool a0_2) ∧ w'.cell? ⟨gb119, 3, none⟩ = some (.bool a0_3) ∧ w'.cell? ⟨gb119, 4, none⟩ = some (.int .u64 a0_4)) ∧ (Kd.R k55 55 w' w.heap.size (fun k_ => some k_ ≠ (s_.2.2 : Value).ownBlock) s_.1 y121) ∧ (Kd.R Kd.bool 4 w' w.heap.size (fun _ => True) s_.2.1 y124) ∧ (Kd.R k55 55 w' w.heap.size (fun k_ => some k_ ≠ (s_.1 : Value).ownBlock) s_.2.2 t127) ∧ (w'.heap[gb119]? = some (.cells #[.int .u8 a0_0, .bool a0_1, .bool a0_2, .bool a0_3, .int .u64 a0_4] 35 (0, 0))) ∧ (Below w.heap.size w w')) ?_ ?_
            rotate_left
            · intro hCont
              refine two_ (i := 5) (j := 12) (Ni := some 22) (Nj := some 29) #[true, true, true, true, true, true, true, true, true, true, true, true, false, false, false, false] #[true, true, true, true, true, false, true, true, true, true, true, true, true, false, false, false] rfl rfl rfl rfl (two_of HT_.out (by kernel_rfl)) (by decide) (by decide) (fun K hK => ?_) (fun K hK => ?_)
              · skip
                refine Kd.R_lit_step k55 _ 55 ?hg (N := 22) ?hd (xs := ([(⟨4, IntKind.u64.wrap (a0_0)⟩ : S55), (⟨4, 0⟩ : S55)] : List (S55))) (inner := [.int .i64 4, .int .u64 (IntKind.u64.wrap (a0_0)), .int .i64 4, .int .u64 0]) (ok := fun _ => True) (okp := fun _ => True) ?hr ?hp (fun _ hk => hk) trivial (Below.refl _ _) (Nat.le_refl _) (by simp) ?_; (case hd => rfl); (case hg => rfl); (case hr => first | (go_simp; done) | (go_simp; rfl)); (case hp => exact (Reps.c2 (show Kd.M k55 _ _ _ (⟨4, IntKind.u64.wrap (a0_0)⟩ : S55) [.int .i64 4, .int .u64 (IntKind.u64.wrap (a0_0))] from (k55_mkM _ _ _ (⟨4, IntKind.u64.wrap (a0_0)⟩ : S55) )) (Reps.c2 (show Kd.M k55 _ _ _ (⟨4, 0⟩ : S55) [.int .i64 4, .int .u64 0] from (k55_mkM _ _ _ (⟨4, 0⟩ : S55) )) (Reps.none _ _))))
                intro v122 w38 ho39 hb hg_ hnew_
                clear hg_ hnew_
                (first | rw [← Ny121.out] at ho39 | (simp only [Int.reduceToNat] at ho39; rw [← Ny121.out] at ho39))
                have n0_ := Aside0.mk (Kd.R_lower ho39 (below_size (by repeat (first | (with_reducible first | exact HB.out | apply below_alloc | apply pw_below_drewN | apply below_drew1 | refine below_set ?_ GE119.out) | exact HB.out))))
                have n1_ := Aside0.mk (blk_below (g := gb119) (o := .cells #[.int .u8 a0_0, .bool a0_1, .bool a0_2, .bool a0_3, .int .u64 a0_4] 35 (0, 0)) (by (with_reducible repeat (first | refine blk_drewN ?_ _ | refine blk_drew ?_ | refine blk_alloc ?_ _)); exact BK119.out) hb)
                have n2_ := Aside0.mk (below_step (by repeat (first | (with_reducible first | exact HB.out | apply below_alloc | apply pw_below_drewN | apply below_drew1 | refine below_set ?_ GE119.out) | exact HB.out)) hb)
                clear BK119
                clear HB
                have HO123 := n0_
                have BK119 := n1_
                have HB := n2_
                clear n0_ n1_ n2_
                clear hb ho39
                refine hK.out _ _ ⟨(blk_cell BK119.out 0).trans rfl, (blk_cell BK119.out 1).trans rfl, (blk_cell BK119.out 2).trans rfl, (blk_cell BK119.out 3).trans rfl, (blk_cell BK119.out 4).trans rfl⟩ (fun hHeld => ?_)
                clear hK K
                refine norm_ (a' := ?_) ?_ ?_
                rotate_left
                · show Act.put _ (some 22) _ = _
                  simp only [Act.put, List.setIfInBounds_toArray, List.set_cons_zero, List.set_cons_succ, i64_w, i32_w]
                  rfl
                refine one_ (i := 12) (N := some 29) #[true, true, true, true, true, true, true, true, true, true, true, true, true, false, false, false] rfl rfl (one_of HT_.out (by kernel_rfl)) (by decide) (fun K hK => ?_)
                refine Kd.R_lit_step Kd.bool _ 4 ?hg (N := 29) ?hd (xs := ([a0_1, a0_2, a0_3] : List Bool)) (inner := [.bool a0_1, .bool a0_2, .bool a0_3]) (ok := fun _ => True) (okp := fun _ => True) ?hr ?hp (fun _ hk => hk) trivial (Below.refl _ _) (Nat.le_refl _) (by simp) ?_; (case hd => rfl); (case hg => rfl); (case hr => first | (go_simp; done) | (go_simp; rfl)); (case hp => exact (Reps.one (show Kd.M Kd.bool _ _ _ a0_1 [.bool a0_1] from rfl) (Reps.one (show Kd.M Kd.bool _ _ _ a0_2 [.bool a0_2] from rfl) (Reps.one (show Kd.M Kd.bool _ _ _ a0_3 [.bool a0_3] from rfl) (Reps.none _ _)))))
                intro v125 w40 ho41 hb hg_ hnew_
                clear hg_ hnew_
                (first | rw [← Ny124.out] at ho41 | (simp only [Int.reduceToNat] at ho41; rw [← Ny124.out] at ho41))
                have n0_ := Aside0.mk (Kd.R_below (by (with_reducible repeat (first | apply Kd.R_alloc | apply Kd.R_drewN | apply Kd.R_drew)); exact HO123.out) hb)
                have n1_ := Aside0.mk (Kd.R_lower ho41 (below_size (by repeat (first | (with_reducible first | exact HB.out | apply below_alloc | apply pw_below_drewN | apply below_drew1 | refine below_set ?_ GE119.out) | exact HB.out))))
                have n2_ := Aside0.mk (blk_below (g := gb119) (o := .cells #[.int .u8 a0_0, .bool a0_1, .bool a0_2, .bool a0_3, .int .u64 a0_4] 35 (0, 0)) (by (with_reducible repeat (first | refine blk_drewN ?_ _ | refine blk_drew ?_ | refine blk_alloc ?_ _)); exact BK119.out) hb)
                have n3_ := Aside0.mk (below_step (by repeat (first | (with_reducible first | exact HB.out | apply below_alloc | apply pw_below_drewN | apply below_drew1 | refine below_set ?_ GE119.out) | exact HB.out)) hb)
                clear HO123
                clear BK119
                clear HB
                have HO123 := n0_
                have HO126 := n1_
                have BK119 := n2_
                have HB := n3_
                clear n0_ n1_ n2_ n3_
                clear hb ho41
                obtain ⟨Ao42, co42, eo42⟩ := Kd.R_slice HO126.out
                (first | subst eo42 | (injection eo42 with f1_ f2_ f3_; have f4_ := f1_.symm; have f5_ := f3_.symm; clear f1_ f2_ f3_; subst f4_; subst f5_))
                refine hK.out _ _ ⟨(blk_cell BK119.out 0).trans rfl, (blk_cell BK119.out 1).trans rfl, (blk_cell BK119.out 2).trans rfl, (blk_cell BK119.out 3).trans rfl, (blk_cell BK119.out 4).trans rfl⟩ (fun hHeld => ?_)
                clear hK K
                refine norm_ (a' := ?_) ?_ ?_
                rotate_left
                · show Act.put _ (some 29) _ = _
                  simp only [Act.put, List.setIfInBounds_toArray, List.set_cons_zero, List.set_cons_succ, i64_w, i32_w]
                  rfl
                refine one_ (i := 13) (N := some 30) #[true, true, true, true, true, true, true, true, true, true, true, true, true, true, false, false] rfl rfl (one_of HT_.out (by kernel_rfl)) (by decide) (fun K hK => ?_)
                refine goes_ Try.func16 (by kernel_rfl) rfl #[.slice Ao42 y124.length co42] (by rfl) rfl rfl (by (try simp only [List.map_toArray, List.map_cons, List.map_nil]); first | done | rfl | (simp only [List.length_drop, List.length_take]; rfl)) ?_
                with_reducible refine (raps_bits.calls k _ _ y124 t127 _ ?side1 ?side2 A7.out).mono ?_
                (case side1 => repeat (first | exact (Kd.R_reads' HO126.out).2.2 | (with_reducible refine Kd.C_alloc ?_ _) | (with_reducible refine Kd.C_drewN ?_ _) | (with_reducible refine Kd.C_drew ?_)))
                (case side2 => exact (Kd.R_reads' HO126.out).2.1)
                rintro e w43 ⟨v128, rfl, ho0, hb⟩
                refine ⟨_, rfl, ?_⟩
                have n0_ := Aside0.mk (Kd.R_elder' (by (with_reducible repeat (first | apply Kd.R_alloc | apply Kd.R_drewN | apply Kd.R_drew)); exact HO123.out) (Kd.R_base ho0) hb)
                have n1_ := Aside0.mk (Kd.R_below (by (with_reducible repeat (first | apply Kd.R_alloc | apply Kd.R_drewN | apply Kd.R_drew)); exact HO126.out) hb)
                have n2_ := Aside0.mk (Kd.R_lower (Kd.R_new' ho0 (Kd.R_lt (by (with_reducible repeat (first | apply Kd.R_alloc | apply Kd.R_drewN | apply Kd.R_drew)); exact HO123.out))) (below_size (by repeat (first | (with_reducible first | exact HB.out | apply below_alloc | apply pw_below_drewN | apply below_drew1 | refine below_set ?_ GE119.out) | exact HB.out))))
                have n3_ := Aside0.mk (blk_below (g := gb119) (o := .cells #[.int .u8 a0_0, .bool a0_1, .bool a0_2, .bool a0_3, .int .u64 a0_4] 35 (0, 0)) (by (with_reducible repeat (first | refine blk_drewN ?_ _ | refine blk_drew ?_ | refine blk_alloc ?_ _)); exact BK119.out) hb)
                have n4_ := Aside0.mk (below_step (by repeat (first | (with_reducible first | exact HB.out | apply below_alloc | apply pw_below_drewN | apply below_drew1 | refine below_set ?_ GE119.out) | exact HB.out)) hb)
                clear HO123
                clear HO126
                clear BK119
                clear HB
                have HO123 := n0_
                have HO126 := n1_
                have HO129 := n2_
                have BK119 := n3_
                have HB := n4_
                clear n0_ n1_ n2_ n3_ n4_
                (try clear hb)
                (try clear hb2)
                (try clear hk)
                (try clear hi)
                (try clear ho0)
                refine hK.out _ _ ⟨(blk_cell BK119.out 0).trans rfl, (blk_cell BK119.out 1).trans rfl, (blk_cell BK119.out 2).trans rfl, (blk_cell BK119.out 3).trans rfl, (blk_cell BK119.out 4).trans rfl⟩ (fun hHeld => ?_)
                clear hK K
                refine norm_ (a' := ?_) ?_ ?_
                rotate_left
                · show Act.put _ (some 30) _ = _
                  simp only [Act.put, List.setIfInBounds_toArray, List.set_cons_zero, List.set_cons_succ, i64_w, i32_w]
                  rfl
                exact norm_ (by first | (simp only [putAll, Act.put, List.setIfInBounds_toArray, List.set_cons_zero, List.set_cons_succ]; done) | (simp only [putAll, Act.put, List.setIfInBounds_toArray, List.set_cons_zero, List.set_cons_succ]; rfl) | (have hu8_ : ∀ x_ m_ : Int, (IntKind.u8.wrap x_).tmod m_ = x_ % 256 % m_ := (fun x_ m_ => Int.tmod_eq_emod_of_nonneg (Int.emod_nonneg x_ (by decide))); simp only [putAll, Act.put, List.setIfInBounds_toArray, List.set_cons_zero, List.set_cons_succ]; simp only [hu8_]; rfl)) (hCont (v122, .slice Ao42 y124.length co42, v128) _ ⟨hHeld, (by (with_reducible repeat (first | apply Kd.R_alloc | apply Kd.R_drewN | apply Kd.R_drew)); exact Kd.R_mono HO123.out (fun _ hk => hk.2)), (by (with_reducible repeat (first | apply Kd.R_alloc | apply Kd.R_drewN | apply Kd.R_drew)); exact HO126.out), (by (with_reducible repeat (first | apply Kd.R_alloc | apply Kd.R_drewN | apply Kd.R_drew)); exact Kd.R_mono HO129.out (fun _ hk => hk.2)), (by (with_reducible repeat (first | refine blk_drewN ?_ _ | refine blk_drew ?_ | refine blk_alloc ?_ _)); exact BK119.out), (by repeat (first | (with_reducible first | exact HB.out | apply below_alloc | apply pw_below_drewN | apply below_drew1 | refine below_set ?_ GE119.out) | exact HB.out))⟩)
              · skip
                refine Kd.R_lit_step Kd.bool _ 4 ?hg (N := 29) ?hd (xs := ([a0_1, a0_2, a0_3] : List Bool)) (inner := [.bool a0_1, .bool a0_2, .bool a0_3]) (ok := fun _ => True) (okp := fun _ => True) ?hr ?hp (fun _ hk => hk) trivial (Below.refl _ _) (Nat.le_refl _) (by simp) ?_; (case hd => rfl); (case hg => rfl); (case hr => first | (go_simp; done) | (go_simp; rfl)); (case hp => exact (Reps.one (show Kd.M Kd.bool _ _ _ a0_1 [.bool a0_1] from rfl) (Reps.one (show Kd.M Kd.bool _ _ _ a0_2 [.bool a0_2] from rfl) (Reps.one (show Kd.M Kd.bool _ _ _ a0_3 [.bool a0_3] from rfl) (Reps.none _ _)))))
                intro v125 w38 ho39 hb hg_ hnew_
                clear hg_ hnew_
                (first | rw [← Ny124.out] at ho39 | (simp only [Int.reduceToNat] at ho39; rw [← Ny124.out] at ho39))
                have n0_ := Aside0.mk (Kd.R_lower ho39 (below_size (by repeat (first | (with_reducible first | exact HB.out | apply below_alloc | apply pw_below_drewN | apply below_drew1 | refine below_set ?_ GE119.out) | exact HB.out))))
                have n1_ := Aside0.mk (blk_below (g := gb119) (o := .cells #[.int .u8 a0_0, .bool a0_1, .bool a0_2, .bool a0_3, .int .u64 a0_4] 35 (0, 0)) (by (with_reducible repeat (first | refine blk_drewN ?_ _ | refine blk_drew ?_ | refine blk_alloc ?_ _)); exact BK119.out) hb)
                have n2_ := Aside0.mk (below_step (by repeat (first | (with_reducible first | exact HB.out | apply below_alloc | apply pw_below_drewN | apply below_drew1 | refine below_set ?_ GE119.out) | exact HB.out)) hb)
                clear BK119
                clear HB
                have HO126 := n0_
                have BK119 := n1_
                have HB := n2_
                clear n0_ n1_ n2_
                clear hb ho39
                refine hK.out _ _ ⟨(blk_cell BK119.out 0).trans rfl, (blk_cell BK119.out 1).trans rfl, (blk_cell BK119.out 2).trans rfl, (blk_cell BK119.out 3).trans rfl, (blk_cell BK119.out 4).trans rfl⟩ (fun hHeld => ?_)
                clear hK K
                refine norm_ (a' := ?_) ?_ ?_
                rotate_left
                · show Act.put _ (some 29) _ = _
                  simp only [Act.put, List.setIfInBounds_toArray, List.set_cons_zero, List.set_cons_succ, i64_w, i32_w]
                  rfl
                refine two_ (i := 5) (j := 13) (Ni := some 22) (Nj := some 30) #[true, true, true, true, true, true, true, true, true, true, true, true, true, false, false, false] #[true, true, true, true, true, false, true, true, true, true, true, true, true, true, false, false] rfl rfl rfl rfl (two_of HT_.out (by kernel_rfl)) (by decide) (by decide) (fun K hK => ?_) (fun K hK => ?_)
                · skip
                  refine Kd.R_lit_step k55 _ 55 ?hg (N := 22) ?hd (xs := ([(⟨4, IntKind.u64.wrap (a0_0)⟩ : S55), (⟨4, 0⟩ : S55)] : List (S55))) (inner := [.int .i64 4, .int .u64 (IntKind.u64.wrap (a0_0)), .int .i64 4, .int .u64 0]) (ok := fun _ => True) (okp := fun _ => True) ?hr ?hp (fun _ hk => hk) trivial (Below.refl _ _) (Nat.le_refl _) (by simp) ?_; (case hd => rfl); (case hg => rfl); (case hr => first | (go_simp; done) | (go_simp; rfl)); (case hp => exact (Reps.c2 (show Kd.M k55 _ _ _ (⟨4, IntKind.u64.wrap (a0_0)⟩ : S55) [.int .i64 4, .int .u64 (IntKind.u64.wrap (a0_0))] from (k55_mkM _ _ _ (⟨4, IntKind.u64.wrap (a0_0)⟩ : S55) )) (Reps.c2 (show Kd.M k55 _ _ _ (⟨4, 0⟩ : S55) [.int .i64 4, .int .u64 0] from (k55_mkM _ _ _ (⟨4, 0⟩ : S55) )) (Reps.none _ _))))
                  intro v122 w40 ho41 hb hg_ hnew_
                  clear hg_ hnew_
                  (first | rw [← Ny121.out] at ho41 | (simp only [Int.reduceToNat] at ho41; rw [← Ny121.out] at ho41))
                  have n0_ := Aside0.mk (Kd.R_below (by (with_reducible repeat (first | apply Kd.R_alloc | apply Kd.R_drewN | apply Kd.R_drew)); exact HO126.out) hb)
                  have n1_ := Aside0.mk (Kd.R_lower ho41 (below_size (by repeat (first | (with_reducible first | exact HB.out | apply below_alloc | apply pw_below_drewN | apply below_drew1 | refine below_set ?_ GE119.out) | exact HB.out))))
                  have n2_ := Aside0.mk (blk_below (g := gb119) (o := .cells #[.int .u8 a0_0, .bool a0_1, .bool a0_2, .bool a0_3, .int .u64 a0_4] 35 (0, 0)) (by (with_reducible repeat (first | refine blk_drewN ?_ _ | refine blk_drew ?_ | refine blk_alloc ?_ _)); exact BK119.out) hb)
                  have n3_ := Aside0.mk (below_step (by repeat (first | (with_reducible first | exact HB.out | apply below_alloc | apply pw_below_drewN | apply below_drew1 | refine below_set ?_ GE119.out) | exact HB.out)) hb)
                  clear HO126
                  clear BK119
                  clear HB
                  have HO126 := n0_
                  have HO123 := n1_
                  have BK119 := n2_
                  have HB := n3_
                  clear n0_ n1_ n2_ n3_
                  clear hb ho41
                  obtain ⟨Ao42, co42, eo42⟩ := Kd.R_slice HO126.out
                  (first | subst eo42 | (injection eo42 with f1_ f2_ f3_; have f4_ := f1_.symm; have f5_ := f3_.symm; clear f1_ f2_ f3_; subst f4_; subst f5_))
                  refine hK.out _ _ ⟨(blk_cell BK119.out 0).trans rfl, (blk_cell BK119.out 1).trans rfl, (blk_cell BK119.out 2).trans rfl, (blk_cell BK119.out 3).trans rfl, (blk_cell BK119.out 4).trans rfl⟩ (fun hHeld => ?_)
                  clear hK K
                  refine norm_ (a' := ?_) ?_ ?_
                  rotate_left
                  · show Act.put _ (some 22) _ = _
                    simp only [Act.put, List.setIfInBounds_toArray, List.set_cons_zero, List.set_cons_succ, i64_w, i32_w]
                    rfl
                  refine one_ (i := 13) (N := some 30) #[true, true, true, true, true, true, true, true, true, true, true, true, true, true, false, false] rfl rfl (one_of HT_.out (by kernel_rfl)) (by decide) (fun K hK => ?_)
                  refine goes_ Try.func16 (by kernel_rfl) rfl #[.slice Ao42 y124.length co42] (by rfl) rfl rfl (by (try simp only [List.map_toArray, List.map_cons, List.map_nil]); first | done | rfl | (simp only [List.length_drop, List.length_take]; rfl)) ?_
                  with_reducible refine (raps_bits.calls k _ _ y124 t127 _ ?side1 ?side2 A7.out).mono ?_
                  (case side1 => repeat (first | exact (Kd.R_reads' HO126.out).2.2 | (with_reducible refine Kd.C_alloc ?_ _) | (with_reducible refine Kd.C_drewN ?_ _) | (with_reducible refine Kd.C_drew ?_)))
                  (case side2 => exact (Kd.R_reads' HO126.out).2.1)
                  rintro e w43 ⟨v128, rfl, ho0, hb⟩
                  refine ⟨_, rfl, ?_⟩
                  have n0_ := Aside0.mk (Kd.R_below (by (with_reducible repeat (first | apply Kd.R_alloc | apply Kd.R_drewN | apply Kd.R_drew)); exact HO126.out) hb)
                  have n1_ := Aside0.mk (Kd.R_elder' (by (with_reducible repeat (first | apply Kd.R_alloc | apply Kd.R_drewN | apply Kd.R_drew)); exact HO123.out) (Kd.R_base ho0) hb)
                  have n2_ := Aside0.mk (Kd.R_lower (Kd.R_new' ho0 (Kd.R_lt (by (with_reducible repeat (first | apply Kd.R_alloc | apply Kd.R_drewN | apply Kd.R_drew)); exact HO123.out))) (below_size (by repeat (first | (with_reducible first | exact HB.out | apply below_alloc | apply pw_below_drewN | apply below_drew1 | refine below_set ?_ GE119.out) | exact HB.out))))
                  have n3_ := Aside0.mk (blk_below (g := gb119) (o := .cells #[.int .u8 a0_0, .bool a0_1, .bool a0_2, .bool a0_3, .int .u64 a0_4] 35 (0, 0)) (by (with_reducible repeat (first | refine blk_drewN ?_ _ | refine blk_drew ?_ | refine blk_alloc ?_ _)); exact BK119.out) hb)
                  have n4_ := Aside0.mk (below_step (by repeat (first | (with_reducible first | exact HB.out | apply below_alloc | apply pw_below_drewN | apply below_drew1 | refine below_set ?_ GE119.out) | exact HB.out)) hb)
                  clear HO126
                  clear HO123
                  clear BK119
                  clear HB
                  have HO126 := n0_
                  have HO123 := n1_
                  have HO129 := n2_
                  have BK119 := n3_
                  have HB := n4_
                  clear n0_ n1_ n2_ n3_ n4_
                  (try clear hb)
                  (try clear hb2)
                  (try clear hk)
                  (try clear hi)
                  (try clear ho0)
                  refine hK.out _ _ ⟨(blk_cell BK119.out 0).trans rfl, (blk_cell BK119.out 1).trans rfl, (blk_cell BK119.out 2).trans rfl, (blk_cell BK119.out 3).trans rfl, (blk_cell BK119.out 4).trans rfl⟩ (fun hHeld => ?_)
                  clear hK K
                  refine norm_ (a' := ?_) ?_ ?_
                  rotate_left
                  · show Act.put _ (some 30) _ = _
                    simp only [Act.put, List.setIfInBounds_toArray, List.set_cons_zero, List.set_cons_succ, i64_w, i32_w]
                    rfl
                  exact norm_ (by first | (simp only [putAll, Act.put, List.setIfInBounds_toArray, List.set_cons_zero, List.set_cons_succ]; done) | (simp only [putAll, Act.put, List.setIfInBounds_toArray, List.set_cons_zero, List.set_cons_succ]; rfl) | (have hu8_ : ∀ x_ m_ : Int, (IntKind.u8.wrap x_).tmod m_ = x_ % 256 % m_ := (fun x_ m_ => Int.tmod_eq_emod_of_nonneg (Int.emod_nonneg x_ (by decide))); simp only [putAll, Act.put, List.setIfInBounds_toArray, List.set_cons_zero, List.set_cons_succ]; simp only [hu8_]; rfl)) (hCont (v122, .slice Ao42 y124.length co42, v128) _ ⟨hHeld, (by (with_reducible repeat (first | apply Kd.R_alloc | apply Kd.R_drewN | apply Kd.R_drew)); exact Kd.R_mono HO123.out (fun _ hk => hk.2)), (by (with_reducible repeat (first | apply Kd.R_alloc | apply Kd.R_drewN | apply Kd.R_drew)); exact HO126.out), (by (with_reducible repeat (first | apply Kd.R_alloc | apply Kd.R_drewN | apply Kd.R_drew)); exact Kd.R_mono HO129.out (fun _ hk => hk.2)), (by (with_reducible repeat (first | refine blk_drewN ?_ _ | refine blk_drew ?_ | refine blk_alloc ?_ _)); exact BK119.out), (by repeat (first | (with_reducible first | exact HB.out | apply below_alloc | apply pw_below_drewN | apply below_drew1 | refine below_set ?_ GE119.out) | exact HB.out))⟩)
                · skip
                  obtain ⟨Ao40, co40, eo40⟩ := Kd.R_slice HO126.out
                  (first | subst eo40 | (injection eo40 with f1_ f2_ f3_; have f4_ := f1_.symm; have f5_ := f3_.symm; clear f1_ f2_ f3_; subst f4_; subst f5_))
                  refine goes_ Try.func16 (by kernel_rfl) rfl #[.slice Ao40 y124.length co40] (by rfl) rfl rfl (by (try simp only [List.map_toArray, List.map_cons, List.map_nil]); first | done | rfl | (simp only [List.length_drop, List.length_take]; rfl)) ?_
                  with_reducible refine (raps_bits.calls k _ _ y124 t127 _ ?side1 ?side2 A7.out).mono ?_
                  (case side1 => repeat (first | exact (Kd.R_reads' HO126.out).2.2 | (with_reducible refine Kd.C_alloc ?_ _) | (with_reducible refine Kd.C_drewN ?_ _) | (with_reducible refine Kd.C_drew ?_)))
                  (case side2 => exact (Kd.R_reads' HO126.out).2.1)
                  rintro e w41 ⟨v128, rfl, ho0, hb⟩
                  refine ⟨_, rfl, ?_⟩
                  have n0_ := Aside0.mk (Kd.R_below (by (with_reducible repeat (first | apply Kd.R_alloc | apply Kd.R_drewN | apply Kd.R_drew)); exact HO126.out) hb)
                  have n1_ := Aside0.mk (Kd.R_lower ho0 (below_size (by repeat (first | (with_reducible first | exact HB.out | apply below_alloc | apply pw_below_drewN | apply below_drew1 | refine below_set ?_ GE119.out) | exact HB.out))))
                  have n2_ := Aside0.mk (blk_below (g := gb119) (o := .cells #[.int .u8 a0_0, .bool a0_1, .bool a0_2, .bool a0_3, .int .u64 a0_4] 35 (0, 0)) (by (with_reducible repeat (first | refine blk_drewN ?_ _ | refine blk_drew ?_ | refine blk_alloc ?_ _)); exact BK119.out) hb)
                  have n3_ := Aside0.mk (below_step (by repeat (first | (with_reducible first | exact HB.out | apply below_alloc | apply pw_below_drewN | apply below_drew1 | refine below_set ?_ GE119.out) | exact HB.out)) hb)
                  clear HO126
                  clear BK119
                  clear HB
                  have HO126 := n0_
                  have HO129 := n1_
                  have BK119 := n2_
                  have HB := n3_
                  clear n0_ n1_ n2_ n3_
                  (try clear hb)
                  (try clear hb2)
                  (try clear hk)
                  (try clear hi)
                  (try clear ho0)
                  refine hK.out _ _ ⟨(blk_cell BK119.out 0).trans rfl, (blk_cell BK119.out 1).trans rfl, (blk_cell BK119.out 2).trans rfl, (blk_cell BK119.out 3).trans rfl, (blk_cell BK119.out 4).trans rfl⟩ (fun hHeld => ?_)
                  clear hK K
                  refine norm_ (a' := ?_) ?_ ?_
                  rotate_left
                  · show Act.put _ (some 30) _ = _
                    simp only [Act.put, List.setIfInBounds_toArray, List.set_cons_zero, List.set_cons_succ, i64_w, i32_w]
                    rfl
                  refine one_ (i := 5) (N := some 22) #[true, true, true, true, true, true, true, true, true, true, true, true, true, true, false, false] rfl rfl (one_of HT_.out (by kernel_rfl)) (by decide) (fun K hK => ?_)
                  refine Kd.R_lit_step k55 _ 55 ?hg (N := 22) ?hd (xs := ([(⟨4, IntKind.u64.wrap (a0_0)⟩ : S55), (⟨4, 0⟩ : S55)] : List (S55))) (inner := [.int .i64 4, .int .u64 (IntKind.u64.wrap (a0_0)), .int .i64 4, .int .u64 0]) (ok := fun _ => True) (okp := fun _ => True) ?hr ?hp (fun _ hk => hk) trivial (Below.refl _ _) (Nat.le_refl _) (by simp) ?_; (case hd => rfl); (case hg => rfl); (case hr => first | (go_simp; done) | (go_simp; rfl)); (case hp => exact (Reps.c2 (show Kd.M k55 _ _ _ (⟨4, IntKind.u64.wrap (a0_0)⟩ : S55) [.int .i64 4, .int .u64 (IntKind.u64.wrap (a0_0))] from (k55_mkM _ _ _ (⟨4, IntKind.u64.wrap (a0_0)⟩ : S55) )) (Reps.c2 (show Kd.M k55 _ _ _ (⟨4, 0⟩ : S55) [.int .i64 4, .int .u64 0] from (k55_mkM _ _ _ (⟨4, 0⟩ : S55) )) (Reps.none _ _))))
                  intro v122 w42 ho43 hb hg_ hnew_
                  clear hg_ hnew_
                  (first | rw [← Ny121.out] at ho43 | (simp only [Int.reduceToNat] at ho43; rw [← Ny121.out] at ho43))
                  have n0_ := Aside0.mk (Kd.R_below (by (with_reducible repeat (first | apply Kd.R_alloc | apply Kd.R_drewN | apply Kd.R_drew)); exact HO126.out) hb)
                  have n1_ := Aside0.mk (Kd.R_elder' (by (with_reducible repeat (first | apply Kd.R_alloc | apply Kd.R_drewN | apply Kd.R_drew)); exact HO129.out) (Kd.R_base ho43) hb)
                  have n2_ := Aside0.mk (Kd.R_lower (Kd.R_new' ho43 (Kd.R_lt (by (with_reducible repeat (first | apply Kd.R_alloc | apply Kd.R_drewN | apply Kd.R_drew)); exact HO129.out))) (below_size (by repeat (first | (with_reducible first | exact HB.out | apply below_alloc | apply pw_below_drewN | apply below_drew1 | refine below_set ?_ GE119.out) | exact HB.out))))
                  have n3_ := Aside0.mk (blk_below (g := gb119) (o := .cells #[.int .u8 a0_0, .bool a0_1, .bool a0_2, .bool a0_3, .int .u64 a0_4] 35 (0, 0)) (by (with_reducible repeat (first | refine blk_drewN ?_ _ | refine blk_drew ?_ | refine blk_alloc ?_ _)); exact BK119.out) hb)
                  have n4_ := Aside0.mk (below_step (by repeat (first | (with_reducible first | exact HB.out | apply below_alloc | apply pw_below_drewN | apply below_drew1 | refine below_set ?_ GE119.out) | exact HB.out)) hb)
                  clear HO126
                  clear HO129
                  clear BK119
                  clear HB
                  have HO126 := n0_
                  have HO129 := n1_
                  have HO123 := n2_
                  have BK119 := n3_
                  have HB := n4_
                  clear n0_ n1_ n2_ n3_ n4_
                  clear hb ho43
                  refine hK.out _ _ ⟨(blk_cell BK119.out 0).trans rfl, (blk_cell BK119.out 1).trans rfl, (blk_cell BK119.out 2).trans rfl, (blk_cell BK119.out 3).trans rfl, (blk_cell BK119.out 4).trans rfl⟩ (fun hHeld => ?_)
                  clear hK K
                  refine norm_ (a' := ?_) ?_ ?_
                  rotate_left
                  · show Act.put _ (some 22) _ = _
                    simp only [Act.put, List.setIfInBounds_toArray, List.set_cons_zero, List.set_cons_succ, i64_w, i32_w]
                    rfl
                  exact norm_ (by first | (simp only [putAll, Act.put, List.setIfInBounds_toArray, List.set_cons_zero, List.set_cons_succ]; done) | (simp only [putAll, Act.put, List.setIfInBounds_toArray, List.set_cons_zero, List.set_cons_succ]; rfl) | (have hu8_ : ∀ x_ m_ : Int, (IntKind.u8.wrap x_).tmod m_ = x_ % 256 % m_ := (fun x_ m_ => Int.tmod_eq_emod_of_nonneg (Int.emod_nonneg x_ (by decide))); simp only [putAll, Act.put, List.setIfInBounds_toArray, List.set_cons_zero, List.set_cons_succ]; simp only [hu8_]; rfl)) (hCont (v122, .slice Ao40 y124.length co40, v128) _ ⟨hHeld, (by (with_reducible repeat (first | apply Kd.R_alloc | apply Kd.R_drewN | apply Kd.R_drew)); exact Kd.R_mono HO123.out (fun _ hk => hk.2)), (by (with_reducible repeat (first | apply Kd.R_alloc | apply Kd.R_drewN | apply Kd.R_drew)); exact HO126.out), (by (with_reducible repeat (first | apply Kd.R_alloc | apply Kd.R_drewN | apply Kd.R_drew)); exact Kd.R_mono HO129.out (fun _ hk => hk.2)), (by (with_reducible repeat (first | refine blk_drewN ?_ _ | refine blk_drew ?_ | refine blk_alloc ?_ _)); exact BK119.out), (by repeat (first | (with_reducible first | exact HB.out | apply below_alloc | apply pw_below_drewN | apply below_drew1 | refine below_set ?_ GE119.out) | exact HB.out))⟩)
            rintro ⟨v122, v125, v128⟩ w44 ⟨hS_, h0_, h1_, h2_, h3_, h4_⟩
            have n0_ : Aside0 (Kd.R k55 55 w44 w.heap.size (fun k_ => some k_ ≠ (v128 : Value).ownBlock) v122 y121) := ⟨h0_⟩
            have n1_ : Aside0 (Kd.R Kd.bool 4 w44 w.heap.size (fun _ => True) v125 y124) := ⟨h1_⟩
            have n2_ : Aside0 (Kd.R k55 55 w44 w.heap.size (fun k_ => some k_ ≠ (v122 : Value).ownBlock) v128 t127) := ⟨h2_⟩
            have n3_ : Aside0 (w44.heap[gb119]? = some (.cells #[.int .u8 a0_0, .bool a0_1, .bool a0_2, .bool a0_3, .int .u64 a0_4] 35 (0, 0))) := ⟨h3_⟩
            have n4_ : Aside0 (Below w.heap.size w w44) := ⟨h4_⟩
            clear BK119
            clear HB
            clear h0_ h1_ h2_ h3_ h4_
            have HO123 := n0_
            have HO126 := n1_
            have HO129 := n2_
            have BK119 := n3_
            have HB := n4_
            clear n0_ n1_ n2_ n3_ n4_
            have hHeld : w44.cell? ⟨gb119, 0, none⟩ = some (.int .u8 a0_0) ∧ w44.cell? ⟨gb119, 1, none⟩ = some (.bool a0_1) ∧ w44.cell? ⟨gb119, 2, none⟩ = some (.bool a0_2) ∧ w44.cell? ⟨gb119, 3, none⟩ = some (.bool a0_3) ∧ w44.cell? ⟨gb119, 4, none⟩ = some (.int .u64 a0_4) := hS_
            obtain ⟨Ao46, co46, eo46⟩ := Kd.R_slice HO129.out
            (first | subst eo46 | (injection eo46 with f1_ f2_ f3_; have f4_ := f1_.symm; have f5_ := f3_.symm; clear f1_ f2_ f3_; subst f4_; subst f5_))
            refine norm_ (a' := ?_) ?_ ?_
            rotate_left
            · simp only [putAll, Act.put, List.setIfInBounds_toArray, List.set_cons_zero, List.set_cons_succ]
              rfl
            refine one_ (i := 14) (N := some 31) #[true, true, true, true, true, true, true, true, true, true, true, true, true, true, true, false] rfl rfl (one_of HT_.out (by kernel_rfl)) (by decide) (fun K hK => ?_)
            refine Kd.R_append_rows_step k55 (w0 := w) w.heap.size (by rfl) (.tmp 22) (.tmp 30) 53 55 (.agg #[(.int .i64 0), (.int .u64 0)]) 16 rfl Try.underlying53 info55 rfl (by decide) (by omega) v122 y121 t127 _ _ _ (fun k_ => some k_ ≠ (.slice Ao46 t127.length co46 : Value).ownBlock) (fun _ => False) rfl rfl ?aO ?aR (fun _ _ h => h) (fun _ h => h.elim) ?aF ?aB ?aS ?aL ?_
            (case aR => repeat (first | exact (Kd.R_reads' HO129.out).2.2 | (with_reducible refine Kd.C_alloc ?_ _) | (with_reducible refine Kd.C_drewN ?_ _) | (with_reducible refine Kd.C_drew ?_)))
            (case aB => exact (by repeat (first | (with_reducible first | exact HB.out | apply below_alloc | apply pw_below_drewN | apply below_drew1 | refine below_set ?_ GE119.out) | exact HB.out)))
            (case aF => exact (fun k_ hk => Kd.fresh' (Kd.R_lt (by (with_reducible repeat (first | apply Kd.R_alloc | apply Kd.R_drewN | apply Kd.R_drew)); exact HO129.out)) k_ hk))
            (case aO => exact (by (with_reducible repeat (first | apply Kd.R_alloc | apply Kd.R_drewN | apply Kd.R_drew)); exact HO123.out))
            (case aS => exact (below_size (by repeat (first | (with_reducible first | exact HB.out | apply below_alloc | apply pw_below_drewN | apply below_drew1 | refine below_set ?_ GE119.out) | exact HB.out))))
            (case aL => have := LMc8.out; omega)
            intro v131 w45 ho hb hg hat
            rw [← Ny130.out] at ho
            have n0_ := Aside0.mk (blk_grown (g := gb119) (o := .cells #[.int .u8 a0_0, .bool a0_1, .bool a0_2, .bool a0_3, .int .u64 a0_4] 35 (0, 0)) (by (with_reducible repeat (first | refine blk_drewN ?_ _ | refine blk_drew ?_ | refine blk_alloc ?_ _)); exact BK119.out) hg (Kd.R_ne HO123.out BK119.out (by decide)))
            have n1_ := Aside0.mk (Kd.R_over' (by (with_reducible repeat (first | apply Kd.R_alloc | apply Kd.R_drewN | apply Kd.R_drew)); exact HO126.out) (Kd.R_typed (by (with_reducible repeat (first | apply Kd.R_alloc | apply Kd.R_drewN | apply Kd.R_drew)); exact HO123.out)) (by decide) hg)
            have n2_ := Aside0.mk (Kd.R_after (ok := (fun _ => True)) (by (with_reducible repeat (first | apply Kd.R_alloc | apply Kd.R_drewN | apply Kd.R_drew)); exact Kd.R_mono HO129.out (fun _ hk => ⟨trivial, hk⟩)) hg hat)
            have n3_ := Aside0.mk (hb)
            have n4_ := Aside0.mk (ho)
            clear BK119
            clear HO126
            clear HO129
            clear HB
            clear HO123
            have BK119 := n0_
            have HO126 := n1_
            have HO129 := n2_
            have HB := n3_
            have HO132 := n4_
            clear n0_ n1_ n2_ n3_ n4_
            clear ho hb hg hat
            refine hK.out _ _ ⟨(blk_cell BK119.out 0).trans rfl, (blk_cell BK119.out 1).trans rfl, (blk_cell BK119.out 2).trans rfl, (blk_cell BK119.out 3).trans rfl, (blk_cell BK119.out 4).trans rfl⟩ (fun hHeld => ?_)
            clear hK K
            refine norm_ (a' := ?_) ?_ ?_
            rotate_left
            · show Act.put _ (some 31) _ = _
              simp only [Act.put, List.setIfInBounds_toArray, List.set_cons_zero, List.set_cons_succ, i64_w, i32_w]
              rfl
            refine pure_ (i := 15) (N := some 7) (v := ?_) (a' := ?_) #[true, true, true, true, true, true, true, true, true, true, true, true, true, true, true, true] rfl rfl (any_of HT_.out (by kernel_rfl)) (fun _ _ _ h => h) (Or.inl ⟨by rfl, ?_⟩) ?_ ?_
            rotate_left
            · intro w'
              go_simp
              with_reducible rfl
            rotate_left
            · simp only [Act.put, List.setIfInBounds_toArray, List.set_cons_zero, List.set_cons_succ, i64_w, i32_w]
              rfl
            refine done_ (done_of HT_.out (by kernel_rfl)) ?_
            have hcz47_0 : w45.cell? ⟨gb119, 0, none⟩ = some (.int .u8 a0_0) := (blk_cell BK119.out 0).trans rfl
            have hcz47_1 : w45.cell? ⟨gb119, 1, none⟩ = some (.bool a0_1) := (blk_cell BK119.out 1).trans rfl
            have hcz47_2 : w45.cell? ⟨gb119, 2, none⟩ = some (.bool a0_2) := (blk_cell BK119.out 2).trans rfl
            have hcz47_3 : w45.cell? ⟨gb119, 3, none⟩ = some (.bool a0_3) := (blk_cell BK119.out 3).trans rfl
            have hcz47_4 : w45.cell? ⟨gb119, 4, none⟩ = some (.int .u64 a0_4) := (blk_cell BK119.out 4).trans rfl
            have hfz47_0 := blk_frozen BK119.out 0
            have hfz47_1 := blk_frozen BK119.out 1
            have hfz47_2 := blk_frozen BK119.out 2
            have hfz47_3 := blk_frozen BK119.out 3
            have hfz47_4 := blk_frozen BK119.out 4
            try go_wp2_with (first | ((with_reducible refine gate_dst (N := 40) rfl ?_); refine Kd.R_lit k55 _ 55 ?hg (N := 40) ?hd (xs := ([(⟨5, 0⟩ : S55), (⟨48, a0_4⟩ : S55), (⟨64, 0⟩ : S55), (⟨64, 0⟩ : S55), (⟨64, 0⟩ : S55)] : List (S55))) (inner := [.int .i64 5, .int .u64 0, .int .i64 48, .int .u64 a0_4, .int .i64 64, .int .u64 0, .int .i64 64, .int .u64 0, .int .i64 64, .int .u64 0]) (ok := fun _ => True) (okp := fun _ => True) ?hr ?hp (fun _ hk => hk) trivial (Below.refl _ _) (Nat.le_refl _) (by simp) ?_; (case hd => rfl); (case hg => rfl); (case hr => first | (go_simp; done) | (go_simp; rfl)); (case hp => exact (Reps.c2 (show Kd.M k55 _ _ _ (⟨5, 0⟩ : S55) [.int .i64 5, .int .u64 0] from (k55_mkM _ _ _ (⟨5, 0⟩ : S55) )) (Reps.c2 (show Kd.M k55 _ _ _ (⟨48, a0_4⟩ : S55) [.int .i64 48, .int .u64 a0_4] from (k55_mkM _ _ _ (⟨48, a0_4⟩ : S55) )) (Reps.c2 (show Kd.M k55 _ _ _ (⟨64, 0⟩ : S55) [.int .i64 64, .int .u64 0] from (k55_mkM _ _ _ (⟨64, 0⟩ : S55) )) (Reps.c2 (show Kd.M k55 _ _ _ (⟨64, 0⟩ : S55) [.int .i64 64, .int .u64 0] from (k55_mkM _ _ _ (⟨64, 0⟩ : S55) )) (Reps.c2 (show Kd.M k55 _ _ _ (⟨64, 0⟩ : S55) [.int .i64 64, .int .u64 0] from (k55_mkM _ _ _ (⟨64, 0⟩ : S55) )) (Reps.none _ _))))))); intro v134 w48 ho49 hb hg_ hnew_; clear hg_ hnew_; (first | rw [← Ny133.out] at ho49 | (simp only [Int.reduceToNat] at ho49; rw [← Ny133.out] at ho49)); have n0_ := Aside0.mk (Kd.R_below (by (with_reducible repeat (first | apply Kd.R_alloc | apply Kd.R_drewN | apply Kd.R_drew)); exact HO126.out) hb); have n1_ := Aside0.mk (Kd.R_elder' (by (with_reducible repeat (first | apply Kd.R_alloc | apply Kd.R_drewN | apply Kd.R_drew)); exact HO129.out) (Kd.R_base ho49) hb); have n2_ := Aside0.mk (Kd.R_elder' (by (with_reducible repeat (first | apply Kd.R_alloc | apply Kd.R_drewN | apply Kd.R_drew)); exact HO132.out) (Kd.R_base ho49) hb); have n3_ := Aside0.mk (Kd.R_lower (Kd.R_new' (Kd.R_new' ho49 (Kd.R_lt (by (with_reducible repeat (first | apply Kd.R_alloc | apply Kd.R_drewN | apply Kd.R_drew)); exact HO129.out))) (Kd.R_lt (by (with_reducible repeat (first | apply Kd.R_alloc | apply Kd.R_drewN | apply Kd.R_drew)); exact HO132.out))) (below_size (by repeat (first | (with_reducible first | exact HB.out | apply below_alloc | apply pw_below_drewN | apply below_drew1 | refine below_set ?_ GE119.out) | exact HB.out)))); have n4_ := Aside0.mk (blk_below (g := gb119) (o := .cells #[.int .u8 a0_0, .bool a0_1, .bool a0_2, .bool a0_3, .int .u64 a0_4] 35 (0, 0)) (by (with_reducible repeat (first | refine blk_drewN ?_ _ | refine blk_drew ?_ | refine blk_alloc ?_ _)); exact BK119.out) hb); have n5_ := Aside0.mk (below_step (by repeat (first | (with_reducible first | exact HB.out | apply below_alloc | apply pw_below_drewN | apply below_drew1 | refine below_set ?_ GE119.out) | exact HB.out)) hb); clear HO126; clear HO129; clear HO132; clear BK119; clear HB; have HO126 := n0_; have HO129 := n1_; have HO132 := n2_; have HO135 := n3_; have BK119 := n4_; have HB := n5_; clear n0_ n1_ n2_ n3_ n4_ n5_; clear hb ho49; obtain ⟨Ao51, co51, eo51⟩ := Kd.R_slice HO135.out; subst eo51) | ((with_reducible refine gate_builtin (b := .append) (xs := #[.tmp 32, .tmp 40]) rfl ?_); at_builtin; refine Kd.R_append_rows k55 (w0 := w) w.heap.size rfl (.tmp 32) (.tmp 40) 53 55 (.agg #[(.int .i64 0), (.int .u64 0)]) 16 rfl Try.underlying53 info55 rfl (by decide) (by omega) v131 y130 y133 _ _ _ (fun k_ => some k_ ≠ (.slice Ao46 t127.length co46 : Value).ownBlock ∧ some k_ ≠ (.slice Ao51 y133.length co51 : Value).ownBlock) (fun _ => False) rfl rfl ?aO ?aR (fun _ _ h => h) (fun _ h => h.elim) ?aF ?aB ?aS ?aL ?_; (case aR => repeat (first | exact (Kd.R_reads' HO135.out).2.2 | (with_reducible refine Kd.C_alloc ?_ _) | (with_reducible refine Kd.C_drewN ?_ _) | (with_reducible refine Kd.C_drew ?_))); (case aB => exact (by repeat (first | (with_reducible first | exact HB.out | apply below_alloc | apply pw_below_drewN | apply below_drew1 | refine below_set ?_ GE119.out) | exact HB.out))); (case aF => exact (fun k_ hk => ⟨Kd.fresh' (Kd.R_lt (by (with_reducible repeat (first | apply Kd.R_alloc | apply Kd.R_drewN | apply Kd.R_drew)); exact HO129.out)) k_ hk, Kd.fresh' (Kd.R_lt (by (with_reducible repeat (first | apply Kd.R_alloc | apply Kd.R_drewN | apply Kd.R_drew)); exact HO135.out)) k_ hk⟩)); (case aO => exact (by (with_reducible repeat (first | apply Kd.R_alloc | apply Kd.R_drewN | apply Kd.R_drew)); exact HO132.out)); (case aS => exact (below_size (by repeat (first | (with_reducible first | exact HB.out | apply below_alloc | apply pw_below_drewN | apply below_drew1 | refine below_set ?_ GE119.out) | exact HB.out)))); (case aL => have := LMc9.out; omega); intro v137 w50 ho hb hg hat; rw [← Ny136.out] at ho; have n0_ := Aside0.mk (blk_grown (g := gb119) (o := .cells #[.int .u8 a0_0, .bool a0_1, .bool a0_2, .bool a0_3, .int .u64 a0_4] 35 (0, 0)) (by (with_reducible repeat (first | refine blk_drewN ?_ _ | refine blk_drew ?_ | refine blk_alloc ?_ _)); exact BK119.out) hg (Kd.R_ne HO132.out BK119.out (by decide))); have n1_ := Aside0.mk (Kd.R_over' (by (with_reducible repeat (first | apply Kd.R_alloc | apply Kd.R_drewN | apply Kd.R_drew)); exact HO126.out) (Kd.R_typed (by (with_reducible repeat (first | apply Kd.R_alloc | apply Kd.R_drewN | apply Kd.R_drew)); exact HO132.out)) (by decide) hg); have n2_ := Aside0.mk (Kd.R_after (ok := (fun k_ => some k_ ≠ (.slice Ao51 y133.length co51 : Value).ownBlock)) (by (with_reducible repeat (first | apply Kd.R_alloc | apply Kd.R_drewN | apply Kd.R_drew)); exact Kd.R_mono HO129.out (fun _ hk => ⟨hk.2, hk.1.2⟩)) hg hat); have n3_ := Aside0.mk (Kd.R_after (ok := (fun k_ => some k_ ≠ (.slice Ao46 t127.length co46 : Value).ownBlock)) (by (with_reducible repeat (first | apply Kd.R_alloc | apply Kd.R_drewN | apply Kd.R_drew)); exact Kd.R_mono HO135.out (fun _ hk => ⟨hk.1.2, hk.2⟩)) hg hat); have n4_ := Aside0.mk (hb); have n5_ := Aside0.mk (ho); clear BK119; clear HO126; clear HO129; clear HO135; clear HB; clear HO132; have BK119 := n0_; have HO126 := n1_; have HO129 := n2_; have HO135 := n3_; have HB := n4_; have HO138 := n5_; clear n0_ n1_ n2_ n3_ n4_ n5_; clear ho hb hg hat; obtain ⟨Ao52, co52, eo52⟩ := Kd.R_slice HO138.out; subst eo52) | ((with_reducible refine gate_callee (f := 17) rfl ?_); refine goesL_ (some 44) rfl rfl Try.func17 (by kernel_rfl) rfl #[.slice Ao52 y136.length co52] rfl (by (try simp only [List.map_toArray, List.map_cons, List.map_nil]); first | done | rfl | (simp only [List.length_drop, List.length_take]; rfl)) ?_; (with_reducible refine (field_Pack.calls _ _ y136 t139 t140 _ ?side1 ?side2 A10.out).mono ?_); (case side1 => repeat (first | exact (Kd.R_reads' HO138.out).2.2 | (with_reducible refine Kd.C_alloc ?_ _) | (with_reducible refine Kd.C_drewN ?_ _) | (with_reducible refine Kd.C_drew ?_))); (case side2 => exact (Kd.R_reads' HO138.out).2.1); rintro e w53 ⟨rfl, hb⟩; refine ⟨_, rfl, ?_⟩; have n0_ := Aside0.mk (Kd.R_below (by (with_reducible repeat (first | apply Kd.R_alloc | apply Kd.R_drewN | apply Kd.R_drew)); exact HO126.out) hb); have n1_ := Aside0.mk (Kd.R_below (by (with_reducible repeat (first | apply Kd.R_alloc | apply Kd.R_drewN | apply Kd.R_drew)); exact HO129.out) hb); have n2_ := Aside0.mk (Kd.R_below (by (with_reducible repeat (first | apply Kd.R_alloc | apply Kd.R_drewN | apply Kd.R_drew)); exact HO135.out) hb); have n3_ := Aside0.mk (Kd.R_below (by (with_reducible repeat (first | apply Kd.R_alloc | apply Kd.R_drewN | apply Kd.R_drew)); exact HO138.out) hb); have n4_ := Aside0.mk (blk_below (g := gb119) (o := .cells #[.int .u8 a0_0, .bool a0_1, .bool a0_2, .bool a0_3, .int .u64 a0_4] 35 (0, 0)) (by (with_reducible repeat (first | refine blk_drewN ?_ _ | refine blk_drew ?_ | refine blk_alloc ?_ _)); exact BK119.out) hb); have n5_ := Aside0.mk (below_step (by repeat (first | (with_reducible first | exact HB.out | apply below_alloc | apply pw_below_drewN | apply below_drew1 | refine below_set ?_ GE119.out) | exact HB.out)) hb); clear HO126; clear HO129; clear HO135; clear HO138; clear BK119; clear HB; have HO126 := n0_; have HO129 := n1_; have HO135 := n2_; have HO138 := n3_; have BK119 := n4_; have HB := n5_; clear n0_ n1_ n2_ n3_ n4_ n5_; (try clear hb); (try clear hb2); (try clear hk); (try clear hi)))
            go_ret2
            exact ⟨by first | rfl | (simp [errW_none, errW_some] <;> rfl) | (simp [*, errW_none, errW_some] <;> rfl), by repeat (first | (with_reducible first | exact HB.out | apply below_alloc | apply pw_below_drewN | apply below_drew1 | refine below_set ?_ GE119.out) | exact HB.out)⟩
        · rw [if_neg c9] at H
          exact absurd H (by simp)
      · rw [if_neg c8] at H
        exact absurd H (by simp)
    · rw [if_neg c6] at H
      have c6b0 : (t120 == 0) = false := beq_eq_false_iff_ne.mpr c6
      have c6b1 : (t120 != 0) = true := bne_iff_ne.mpr c6
      simp only [Option.some.injEq, Prod.mk.injEq] at H
      obtain ⟨rfl, rfl⟩ := H
      go_enter Try.func12, Try.ntmps12
      go_wp2_with (first | ((with_reducible refine gate_dst (N := 2) rfl ?_); refine box_event ?hg (N := 2) ?hd (cs := #[.int .u8 a0_0, .bool a0_1, .bool a0_2, .bool a0_3, .int .u64 a0_4]) (t := 35) ?hr ?_; (case hd => rfl); (case hg => rfl); (case hr => first | (go_simp; done) | (go_simp; rfl)); intro gb119 hg w54 hbox hb; have n0_ := Aside0.mk (below_step (by repeat (first | (with_reducible first | exact HB.out | apply below_alloc | apply pw_below_drewN | apply below_drew1) | exact HB.out)) hb); have n1_ := Aside0.mk (hbox); have n2_ := Aside0.mk ((by rw [hg]; exact (below_size (by repeat (first | (with_reducible first | exact HB.out | apply below_alloc | apply pw_below_drewN | apply below_drew1) | exact HB.out))) : w.heap.size ≤ gb119)); have n3_ := Aside0.mk ((by rw [hg]; exact (below_size (by repeat (first | (with_reducible first | exact HB.out | apply below_alloc | apply pw_below_drewN | apply below_drew1) | exact HB.out))) : w.heap.size ≤ gb119)); clear HB; have HB := n0_; have BK119 := n1_; have GW119 := n2_; have GE119 := n3_; clear n0_ n1_ n2_ n3_; clear hb hbox hg; have hcz55_0 : w54.cell? ⟨gb119, 0, none⟩ = some (.int .u8 a0_0) := (blk_cell BK119.out 0).trans rfl; have hcz55_1 : w54.cell? ⟨gb119, 1, none⟩ = some (.bool a0_1) := (blk_cell BK119.out 1).trans rfl; have hcz55_2 : w54.cell? ⟨gb119, 2, none⟩ = some (.bool a0_2) := (blk_cell BK119.out 2).trans rfl; have hcz55_3 : w54.cell? ⟨gb119, 3, none⟩ = some (.bool a0_3) := (blk_cell BK119.out 3).trans rfl; have hcz55_4 : w54.cell? ⟨gb119, 4, none⟩ = some (.int .u64 a0_4) := (blk_cell BK119.out 4).trans rfl; have hfz55_0 := blk_frozen BK119.out 0; have hfz55_1 := blk_frozen BK119.out 1; have hfz55_2 := blk_frozen BK119.out 2; have hfz55_3 := blk_frozen BK119.out 3; have hfz55_4 := blk_frozen BK119.out 4) | ((with_reducible refine gate_callee (f := 15) rfl ?_); refine goesL_ (some 13) rfl rfl Try.func15 (by kernel_rfl) rfl #[.agg #[.int .u8 a0_0, .bool a0_1, .bool a0_2, .bool a0_3, .int .u64 a0_4]] rfl (by (try simp only [List.map_toArray, List.map_cons, List.map_nil]); first | done | rfl | (simp only [List.length_drop, List.length_take]; rfl)) ?_; (with_reducible refine (raps_Msg_wrong.calls k a0_0 a0_1 a0_2 a0_3 a0_4 t120 _ A5.out).mono ?_); rintro e w56 ⟨rfl, hb⟩; refine ⟨_, rfl, ?_⟩; have n0_ := Aside0.mk (blk_below (g := gb119) (o := .cells #[.int .u8 a0_0, .bool a0_1, .bool a0_2, .bool a0_3, .int .u64 a0_4] 35 (0, 0)) (by (with_reducible repeat (first | refine blk_drewN ?_ _ | refine blk_drew ?_ | refine blk_alloc ?_ _)); exact BK119.out) hb); have n1_ := Aside0.mk (below_step (by repeat (first | (with_reducible first | exact HB.out | apply below_alloc | apply pw_below_drewN | apply below_drew1 | refine below_set ?_ GE119.out) | exact HB.out)) hb); clear BK119; clear HB; have BK119 := n0_; have HB := n1_; clear n0_ n1_; (try clear hb); (try clear hb2); (try clear hk); (try clear hi)))
      go_ret2
      exact ⟨by first | rfl | (simp [errW_none, errW_some] <;> rfl) | (simp [*, errW_none, errW_some] <;> rfl), by repeat (first | (with_reducible first | exact HB.out | apply below_alloc | apply pw_below_drewN | apply below_drew1 | refine below_set ?_ GE119.out) | exact HB.out)⟩

end Go.Proofs.Ytbciaapkahfcaaa.PFlushHears
