-- Written by a program of this work, after the translation.
import Derived.Test.YtmdaaphjndjakafPRapsOpensx0
namespace Go.Proofs.Ytmdaaphjndjakaf.PRapsOpens
open Go.RowKit Go.Proofs.YtmdaaphjndjakafW.PrintWords Go.Proofs.YtmdaaphjndjakafW.PrintLast Go.Proofs.YtmdaaphjndjakafW.PrintMore
attribute [local go_sem] max2_int min2_int max_two min_two max_three min_three max_four min_four   -- for this text's walks alone
set_option linter.unusedVariables false
set_option linter.unusedSimpArgs false

/-! ### carouselref04_Open: function 47 -/
def carouselref04_Open.j0 : Nat → ByteArray → Bool → Option (Int × Int × Int × Int × Int × ByteArray × Int)
  | 0, _, _ => none
  | k + 1, x0, x17 => if x17 = true then (some (0, 0, 0, 0, 0, (⟨#[]⟩ : ByteArray), 1)) else (if 3 < (x0.size : Int) then (if 0 ≤ (wrap64 (4 + (wrap64 (bt x0 3)))) then (if (wrap64 (4 + (wrap64 (bt x0 3)))) < (x0.size : Int) then (if (bt x0 (wrap64 (4 + (wrap64 (bt x0 3))))) = 0 then (if 0 < (x0.size : Int) then (if 1 < (x0.size : Int) then (if 2 < (x0.size : Int) then (if 4 ≤ (wrap64 (4 + (wrap64 (bt x0 3)))) then (if (wrap64 (4 + (wrap64 (bt x0 3)))) ≤ (x0.size : Int) then (some ((Int.tdiv (bt x0 0) 32) % 256, Int.tmod (bt x0 0) 32, bt x0 1, bt x0 2, bt x0 3, x0.extract 4 ((wrap64 (4 + (wrap64 (bt x0 3)))) : Int).toNat, 0)) else (none)) else (none)) else (none)) else (none)) else (none)) else (some (0, 0, 0, 0, 0, (⟨#[]⟩ : ByteArray), 3))) else (none)) else (none)) else (none))
def carouselref04_Open.f (k : Nat) (a0 : ByteArray) : Option (Int × Int × Int × Int × Int × ByteArray × Int) := if (a0.size : Int) < 4 then (carouselref04_Open.j0 k a0 true) else (if 3 < (a0.size : Int) then (carouselref04_Open.j0 k a0 (decide ((a0.size : Int) < (wrap64 (5 + (wrap64 (bt a0 3))))))) else (none))
theorem carouselref04_Open.mono_l : ∀ k, (∀ y0 y1, LeO (carouselref04_Open.j0 k y0 y1) (carouselref04_Open.j0 (k + 1) y0 y1))
 | 0 => fun _ _ r h => by simp [carouselref04_Open.j0] at h
 | k + 1 => by
  have ih0 := carouselref04_Open.mono_l k
  ·
   intro y0 y1
   unfold carouselref04_Open.j0
   repeat' first
   | (with_reducible exact ih0 _ _)
   | (with_reducible exact LeO.refl _)
   | (with_reducible exact LeO.none _)
   | (with_reducible refine LeO.ite ?_ ?_)
   | (with_reducible refine LeO.bind ?_ (fun _ => ?_))
   | exact ih0 _ _
   | exact LeO.none _
   | refine LeO.ite ?_ ?_
   | refine LeO.bind ?_ (fun _ => ?_)
theorem carouselref04_Open.mono : ∀ a0 k, LeO (carouselref04_Open.f k a0) (carouselref04_Open.f (k + 1) a0) := by
 intro a0 k
 have ih0 := carouselref04_Open.mono_l k
 unfold carouselref04_Open.f
 repeat' first
   | (with_reducible exact ih0 _ _)
   | (with_reducible exact LeO.refl _)
   | (with_reducible exact LeO.none _)
   | (with_reducible refine LeO.ite ?_ ?_)
   | (with_reducible refine LeO.bind ?_ (fun _ => ?_))
   | exact ih0 _ _
   | exact LeO.none _
   | refine LeO.ite ?_ ?_
   | refine LeO.bind ?_ (fun _ => ?_)
def carouselref04_Open.T6 : Bool × List (List Nat × List Nat) := (true, [([], []), ([0], [0]), ([1], [1]), ([], []), ([3], [3]), ([4], [4]), ([], []), ([6], [6]), ([], []), ([8], [8]), ([], []), ([10], [10]), ([2, 5, 7, 9, 11], [2, 5, 7, 9, 11]), ([], []), ([], []), ([14], [14]), ([13, 15], [13, 15]), ([12, 0, 1, 2, 3, 4, 5, 6, 7, 8, 9, 10, 11, 12], [12]), ([16, 17, 0, 1, 2, 3, 4, 5, 6, 7, 8, 9, 10, 11, 12, 13, 14, 15, 16, 17], [16]), ([18, 0, 1, 2, 3, 4, 5, 6, 7, 8, 9, 10, 11, 12, 13, 14, 15, 16, 17, 18], [])])
def carouselref04_Open.B6 : List Nat := [0, 1, 3, 0, 8, 24, 0, 64, 0, 256, 0, 1024, 4095, 0, 0, 16384, 57344, 8191, 262143, 524287]
theorem carouselref04_Open.tab6 : rtab .any (opsOf Try.f47 6) = carouselref04_Open.T6 := by kernel_rfl
theorem carouselref04_Open.bits6 : waitsOk carouselref04_Open.T6.2 carouselref04_Open.B6 = true := by kernel_rfl
set_option maxHeartbeats 8000000 in
set_option maxRecDepth 100000 in
theorem carouselref04_Open.calls (k : Nat) (a0 : ByteArray) (r1 : Int) (r2 : Int) (r3 : Int) (r4 : Int) (r5 : Int) (r6 : ByteArray) (r7 : Int) (w : World) (h : carouselref04_Open.f k a0 = some (r1, r2, r3, r4, r5, r6, r7)) :
  Calls Try.prog 47 #[.string a0] w fun e w' => e = .returned (.tuple #[.agg #[.int .u8 r1, .int .u8 r2, .int .u8 r3, .int .u8 r4, .int .u8 r5], .string r6, .int .i64 r7]) ∧ Below w.heap.size w w' := by
 have hu87 := Try.underlying87
 have HB := Aside0.mk (Below.refl w.heap.size w)
 have H : (if (a0.size : Int) < 4 then (carouselref04_Open.j0 k a0 true) else (if 3 < (a0.size : Int) then (carouselref04_Open.j0 k a0 (decide ((a0.size : Int) < (wrap64 (5 + (wrap64 (bt a0 3))))))) else (none))) = some (r1, r2, r3, r4, r5, r6, r7) := h
 clear h
 have HC2 := Aside0.mk H
 clear H
 go_enter Try.func47, Try.ntmps47
 go_upto_region 1 with (first | ((with_reducible refine gate_dst (N := 2) rfl ?_); (try (refine gate_guard (by rfl) ?_; dsimp only)); refine box_event ?hg (N := 2) ?hd (cs := #[.int .u8 0, .int .u8 0, .int .u8 0, .int .u8 0, .int .u8 0]) (t := 87) ?hr ?_; (case hd => rfl); (case hg => rfl); (case hr => first | (go_simp; done) | (go_simp; rfl)); intro gb205 hg w3 hbox hb; have n0_ := Aside0.mk (below_step (by repeat (first | (with_reducible first | exact HB.out | apply below_alloc | apply pw_below_drewN | apply below_drew1) | exact HB.out)) hb); have n1_ := Aside0.mk (hbox); have n2_ := Aside0.mk ((by rw [hg]; exact (below_size (by repeat (first | (with_reducible first | exact HB.out | apply below_alloc | apply pw_below_drewN | apply below_drew1) | exact HB.out))) : w.heap.size ≤ gb205)); have n3_ := Aside0.mk ((by rw [hg]; exact (below_size (by repeat (first | (with_reducible first | exact HB.out | apply below_alloc | apply pw_below_drewN | apply below_drew1) | exact HB.out))) : w.heap.size ≤ gb205)); clear HB; have HB := n0_; have BK205 := n1_; have GW205 := n2_; have GE205 := n3_; clear n0_ n1_ n2_ n3_; clear hb hbox hg))
 (try simp only [Act.put, List.setIfInBounds_toArray, List.set_cons_zero, List.set_cons_succ])
 go_cut [17] (fun v17 wc => ∃ (kq : Nat) (x17_1 : Bool), v17 = .bool x17_1 ∧ Aside0 (carouselref04_Open.j0 kq a0 x17_1 = some (r1, r2, r3, r4, r5, r6, r7)) ∧ Aside0 (kq ≤ k) ∧ Aside0 (wc.heap[gb205]? = some (.cells #[.int .u8 0, .int .u8 0, .int .u8 0, .int .u8 0, .int .u8 0] 87 (0, 0))) ∧ Aside0 (Below w.heap.size w wc))
 case first =>
  have H := HC2.out
  clear HC2
  by_cases c4 : (a0.size : Int) < 4
  ·
   rw [if_pos c4] at H
   have c4b0 : decide ((a0.size : Int) < 4) = true := decide_eq_true c4
   have c4b1 : decide (a0.size < 4) = true := decide_eq_true (by omega)
   clear c4
   (first | rw [c4b0] | (simp only [i64_w, i32_w]; rw [c4b0]) | skip)
   have H' := Aside0.mk H
   clear H
   go_wp2
   go_meet
   case rel => exact ⟨_, (true), (by first | rfl | (simp; done) | (simp [*]; done)), H', ⟨by first | omega | exact Nat.le_refl _⟩, ⟨by (with_reducible repeat (first | refine blk_drewN ?_ _ | refine blk_drew ?_ | refine blk_alloc ?_ _)); exact BK205.out⟩, ⟨by repeat (first | (with_reducible first | exact HB.out | apply below_alloc | apply pw_below_drewN | apply below_drew1 | refine below_set ?_ GE205.out) | exact HB.out)⟩⟩
  ·
   rw [if_neg c4] at H
   have c4b0 : decide ((a0.size : Int) < 4) = false := decide_eq_false c4
   have c4b1 : decide (a0.size < 4) = false := decide_eq_false (by omega)
   clear c4
   (first | rw [c4b0] | (simp only [i64_w, i32_w]; rw [c4b0]) | skip)
   by_cases c5 : 3 < (a0.size : Int)
   ·
    rw [if_pos c5] at H
    have c5b0 : decide (3 < (a0.size : Int)) = true := decide_eq_true c5
    have c5b1 : decide (3 < a0.size) = true := decide_eq_true (by omega)
    clear c5
    have H' := Aside0.mk H
    clear H
    have p6 : 0 ≤ (3 : Int) := (by omega)
    have q6 : 3 < a0.size := (by have : (3 : Int) < (a0.size : Int) := of_decide_eq_true (by first | (with_reducible assumption) | assumption); omega)
    have hx6 : ∀ h : 3 < a0.size, ((a0[3]'h).toNat : Int) = bt a0 3 := bt_at a0 3
    clear p6
    have qi6 : (3 < (a0.size : Int)) = True := eq_true (of_decide_eq_true (by first | (with_reducible assumption) | assumption))
    replace q6 := eq_true q6
    go_wp2
    go_meet
    case rel => exact ⟨_, (decide ((a0.size : Int) < (wrap64 (5 + (wrap64 (bt a0 3)))))), (by first | rfl | (simp; done) | (simp [*]; done)), H', ⟨by first | omega | exact Nat.le_refl _⟩, ⟨by (with_reducible repeat (first | refine blk_drewN ?_ _ | refine blk_drew ?_ | refine blk_alloc ?_ _)); exact BK205.out⟩, ⟨by repeat (first | (with_reducible first | exact HB.out | apply below_alloc | apply pw_below_drewN | apply below_drew1 | refine below_set ?_ GE205.out) | exact HB.out)⟩⟩
   ·
    rw [if_neg c5] at H
    exact absurd H (by simp)
 case rest =>
  clear HC2
  try clear p2
  try clear c4
  try clear c4b0
  try clear c4b1
  try clear c5
  try clear c5b0
  try clear c5b1
  try clear p6
  try clear q6
  try clear hx6
  try clear qi6
  try clear p6
  try clear q6
  obtain ⟨kq, x17_1, rfl, HA, HJ1, BK205, HB⟩ := hcut
  cases kq with
  | zero => exact absurd HA.out (by simp [carouselref04_Open.j0])
  | succ kj1 =>
   have H := HA.out
   clear HA
   simp only [carouselref04_Open.j0] at H
   by_cases c7 : x17_1 = true
   ·
    subst c7
    have H1 : (some (0, 0, 0, 0, 0, (⟨#[]⟩ : ByteArray), 1)) = some (r1, r2, r3, r4, r5, r6, r7) := by rw [if_pos rfl] at H; exact H
    clear H
    have H := H1
    clear H1
    simp only [Option.some.injEq, Prod.mk.injEq] at H
    obtain ⟨rfl, rfl, rfl, rfl, rfl, rfl, rfl⟩ := H
    have hcz8_0 : wc.cell? ⟨gb205, 0, none⟩ = some (.int .u8 0) := (blk_cell BK205.out 0).trans rfl
    have hcz8_1 : wc.cell? ⟨gb205, 1, none⟩ = some (.int .u8 0) := (blk_cell BK205.out 1).trans rfl
    have hcz8_2 : wc.cell? ⟨gb205, 2, none⟩ = some (.int .u8 0) := (blk_cell BK205.out 2).trans rfl
    have hcz8_3 : wc.cell? ⟨gb205, 3, none⟩ = some (.int .u8 0) := (blk_cell BK205.out 3).trans rfl
    have hcz8_4 : wc.cell? ⟨gb205, 4, none⟩ = some (.int .u8 0) := (blk_cell BK205.out 4).trans rfl
    have hfz8_0 := blk_frozen BK205.out 0
    have hfz8_1 := blk_frozen BK205.out 1
    have hfz8_2 := blk_frozen BK205.out 2
    have hfz8_3 := blk_frozen BK205.out 3
    have hfz8_4 := blk_frozen BK205.out 4
    go_wp2
    refine bodyPost_ret (results_ctt rfl _ _ gb205 87 #[.int .u8 0, .int .u8 0, .int .u8 0, .int .u8 0, .int .u8 0] (0, 0) _ rfl (by (with_reducible repeat (first | refine blk_drewN ?_ _ | refine blk_drew ?_ | refine blk_alloc ?_ _)); refine blk_put (cs := #[.int .u8 0, .int .u8 0, .int .u8 0, .int .u8 0, .int .u8 0]) ?_ 4 _ rfl; (with_reducible repeat (first | refine blk_drewN ?_ _ | refine blk_drew ?_ | refine blk_alloc ?_ _)); refine blk_put (cs := #[.int .u8 0, .int .u8 0, .int .u8 0, .int .u8 0, .int .u8 0]) ?_ 3 _ rfl; (with_reducible repeat (first | refine blk_drewN ?_ _ | refine blk_drew ?_ | refine blk_alloc ?_ _)); refine blk_put (cs := #[.int .u8 0, .int .u8 0, .int .u8 0, .int .u8 0, .int .u8 0]) ?_ 2 _ rfl; (with_reducible repeat (first | refine blk_drewN ?_ _ | refine blk_drew ?_ | refine blk_alloc ?_ _)); refine blk_put (cs := #[.int .u8 0, .int .u8 0, .int .u8 0, .int .u8 0, .int .u8 0]) ?_ 1 _ rfl; (with_reducible repeat (first | refine blk_drewN ?_ _ | refine blk_drew ?_ | refine blk_alloc ?_ _)); refine blk_put (cs := #[.int .u8 0, .int .u8 0, .int .u8 0, .int .u8 0, .int .u8 0]) ?_ 0 _ rfl; (with_reducible repeat (first | refine blk_drewN ?_ _ | refine blk_drew ?_ | refine blk_alloc ?_ _)); exact BK205.out) Try.underlying87 rfl (by kernel_rfl)) rfl ?_
    exact ⟨by first | rfl | (simp [errW_none, errW_some] <;> rfl) | (simp [*, errW_none, errW_some] <;> rfl), by repeat (first | (with_reducible first | exact HB.out | apply below_alloc | apply pw_below_drewN | apply below_drew1 | refine below_set ?_ GE205.out) | exact HB.out)⟩
   ·
    replace c7 := Bool.eq_false_iff.mpr c7
    subst c7
    have H1 : (if 3 < (a0.size : Int) then (if 0 ≤ (wrap64 (4 + (wrap64 (bt a0 3)))) then (if (wrap64 (4 + (wrap64 (bt a0 3)))) < (a0.size : Int) then (if (bt a0 (wrap64 (4 + (wrap64 (bt a0 3))))) = 0 then (if 0 < (a0.size : Int) then (if 1 < (a0.size : Int) then (if 2 < (a0.size : Int) then (if 4 ≤ (wrap64 (4 + (wrap64 (bt a0 3)))) then (if (wrap64 (4 + (wrap64 (bt a0 3)))) ≤ (a0.size : Int) then (some ((Int.tdiv (bt a0 0) 32) % 256, Int.tmod (bt a0 0) 32, bt a0 1, bt a0 2, bt a0 3, a0.extract 4 ((wrap64 (4 + (wrap64 (bt a0 3)))) : Int).toNat, 0)) else (none)) else (none)) else (none)) else (none)) else (none)) else (some (0, 0, 0, 0, 0, (⟨#[]⟩ : ByteArray), 3))) else (none)) else (none)) else (none)) = some (r1, r2, r3, r4, r5, r6, r7) := by rw [if_neg (show ¬ (false = true) by decide)] at H; exact H
    clear H
    have H := H1
    clear H1
    by_cases c9 : 3 < (a0.size : Int)
    ·
     rw [if_pos c9] at H
     have c9b0 : decide (3 < (a0.size : Int)) = true := decide_eq_true c9
     have c9b1 : decide (3 < a0.size) = true := decide_eq_true (by omega)
     clear c9
     obtain ⟨ji11, hji11⟩ : ∃ j_ : Int, (wrap64 (4 + (wrap64 (bt a0 3)))) = j_ := ⟨_, rfl⟩
     replace H : (if 0 ≤ (ji11) then (if (ji11) < (a0.size : Int) then (if (bt a0 (ji11)) = 0 then (if 0 < (a0.size : Int) then (if 1 < (a0.size : Int) then (if 2 < (a0.size : Int) then (if 4 ≤ (ji11) then (if (ji11) ≤ (a0.size : Int) then (some ((Int.tdiv (bt a0 0) 32) % 256, Int.tmod (bt a0 0) 32, bt a0 1, bt a0 2, bt a0 3, a0.extract 4 ((ji11) : Int).toNat, 0)) else (none)) else (none)) else (none)) else (none)) else (none)) else (some (0, 0, 0, 0, 0, (⟨#[]⟩ : ByteArray), 3))) else (none)) else (none)) = some (r1, r2, r3, r4, r5, r6, r7) := by first | (rw [hji11] at H; exact H) | (simp only [hji11] at H ⊢; exact H)
     have hji11w : (IntKind.i64.wrap (4 + (wrap64 (bt a0 3)))) = ji11 := (i64_w _).trans hji11
     by_cases c12 : 0 ≤ (ji11)
     ·
      rw [if_pos c12] at H
      have c12b0 : decide (0 ≤ (ji11)) = true := decide_eq_true c12
      clear c12
      by_cases c13 : (ji11) < (a0.size : Int)
      ·
       rw [if_pos c13] at H
       have c13b0 : decide ((ji11) < (a0.size : Int)) = true := decide_eq_true c13
       clear c13
       by_cases c15 : (bt a0 (ji11)) = 0
       ·
        rw [if_pos c15] at H
        have c15b0 : ((bt a0 (ji11)) == 0) = true := beq_iff_eq.mpr c15
        have c15b1 : ((bt a0 (ji11)) != 0) = false := bne_eq_false_iff_eq.mpr c15
        clear c15
        by_cases c16 : 0 < (a0.size : Int)
        ·
         rw [if_pos c16] at H
         have c16b0 : decide (0 < (a0.size : Int)) = true := decide_eq_true c16
         have c16b1 : decide (0 < a0.size) = true := decide_eq_true (by omega)
         clear c16
         by_cases c19 : 1 < (a0.size : Int)
         ·
          rw [if_pos c19] at H
          have c19b0 : decide (1 < (a0.size : Int)) = true := decide_eq_true c19
          have c19b1 : decide (1 < a0.size) = true := decide_eq_true (by omega)
          clear c19
          by_cases c21 : 2 < (a0.size : Int)
          ·
           rw [if_pos c21] at H
           have c21b0 : decide (2 < (a0.size : Int)) = true := decide_eq_true c21
           have c21b1 : decide (2 < a0.size) = true := decide_eq_true (by omega)
           clear c21
           by_cases c24 : 4 ≤ (ji11)
           ·
            rw [if_pos c24] at H
            have c24b0 := eq_true c24
            have c24b1 : decide (4 ≤ (ji11)) = true := decide_eq_true c24
            clear c24
            by_cases c25 : (ji11) ≤ (a0.size : Int)
            ·
             rw [if_pos c25] at H
             have c25b0 := eq_true c25
             have c25b1 : decide ((ji11) ≤ (a0.size : Int)) = true := decide_eq_true c25
             clear c25
             simp only [Option.some.injEq, Prod.mk.injEq] at H
             obtain ⟨rfl, rfl, rfl, rfl, rfl, rfl, rfl⟩ := H
             have p10 : 0 ≤ (3 : Int) := (by omega)
             have q10 : 3 < a0.size := (by have : (3 : Int) < (a0.size : Int) := of_decide_eq_true (by first | (with_reducible assumption) | assumption); omega)
             have hx10 : ∀ h : 3 < a0.size, ((a0[3]'h).toNat : Int) = bt a0 3 := bt_at a0 3
             clear p10
             have qi10 : (3 < (a0.size : Int)) = True := eq_true (of_decide_eq_true (by first | (with_reducible assumption) | assumption))
             replace q10 := eq_true q10
             have p14 : 0 ≤ ((ji11) : Int) := of_decide_eq_true (by first | (with_reducible assumption) | assumption)
             have q14 : (ji11) < (a0.size : Int) := of_decide_eq_true (by first | (with_reducible assumption) | assumption)
             have hx14 := bt_at a0 (ji11)
             replace p14 := eq_true p14
             replace q14 := eq_true q14
             try go_wp2
             have n0_ := Aside0.mk (blk_drew BK205.out)
             have n1_ := Aside0.mk (below_drew1 HB.out)
             clear BK205
             clear HB
             have BK205 := n0_
             have HB := n1_
             clear n0_ n1_
             have p17 : 0 ≤ (0 : Int) := (by omega)
             have q17 : 0 < a0.size := (by have : (0 : Int) < (a0.size : Int) := of_decide_eq_true (by first | (with_reducible assumption) | assumption); omega)
             have hx17 : ∀ h : 0 < a0.size, ((a0[0]'h).toNat : Int) = bt a0 0 := bt_at a0 0
             clear p17
             have qi17 : (0 < (a0.size : Int)) = True := eq_true (of_decide_eq_true (by first | (with_reducible assumption) | assumption))
             replace q17 := eq_true q17
             have p18 : 0 ≤ (0 : Int) := (by omega)
             have q18 : 0 < a0.size := (by have : (0 : Int) < (a0.size : Int) := of_decide_eq_true (by first | (with_reducible assumption) | assumption); omega)
             have hx18 : ∀ h : 0 < a0.size, ((a0[0]'h).toNat : Int) = bt a0 0 := bt_at a0 0
             clear p18
             have qi18 : (0 < (a0.size : Int)) = True := eq_true (of_decide_eq_true (by first | (with_reducible assumption) | assumption))
             replace q18 := eq_true q18
             have p20 : 0 ≤ (1 : Int) := (by omega)
             have q20 : 1 < a0.size := (by have : (1 : Int) < (a0.size : Int) := of_decide_eq_true (by first | (with_reducible assumption) | assumption); omega)
             have hx20 : ∀ h : 1 < a0.size, ((a0[1]'h).toNat : Int) = bt a0 1 := bt_at a0 1
             clear p20
             have qi20 : (1 < (a0.size : Int)) = True := eq_true (of_decide_eq_true (by first | (with_reducible assumption) | assumption))
             replace q20 := eq_true q20
             have p22 : 0 ≤ (2 : Int) := (by omega)
             have q22 : 2 < a0.size := (by have : (2 : Int) < (a0.size : Int) := of_decide_eq_true (by first | (with_reducible assumption) | assumption); omega)
             have hx22 : ∀ h : 2 < a0.size, ((a0[2]'h).toNat : Int) = bt a0 2 := bt_at a0 2
             clear p22
             have qi22 : (2 < (a0.size : Int)) = True := eq_true (of_decide_eq_true (by first | (with_reducible assumption) | assumption))
             replace q22 := eq_true q22
             have p23 : 0 ≤ (3 : Int) := (by omega)
             have q23 : 3 < a0.size := (by have : (3 : Int) < (a0.size : Int) := of_decide_eq_true (by first | (with_reducible assumption) | assumption); omega)
             have hx23 : ∀ h : 3 < a0.size, ((a0[3]'h).toNat : Int) = bt a0 3 := bt_at a0 3
             clear p23
             have qi23 : (3 < (a0.size : Int)) = True := eq_true (of_decide_eq_true (by first | (with_reducible assumption) | assumption))
             replace q23 := eq_true q23
             refine start_ (n := 20) (S := fun w' => True) (ds := []) #[false, false, false, false, false, false, false, false, false, false, false, false, false, false, false, false, false, false, false, false] (by kernel_rfl) rfl rfl trivial (fun hHeld => ?_); refine with_tabW carouselref04_Open.tab6 carouselref04_Open.bits6 (fun HT_ HW_ => ?_)
             generalize wc.drew = w26 at BK205 HB hHeld ⊢
             refine pure_ (i := 0) (N := some 28) (v := ?_) (a' := ?_) #[true, false, false, false, false, false, false, false, false, false, false, false, false, false, false, false, false, false, false, false] rfl rfl (any_of HT_.out (by kernel_rfl)) (fun _ _ _ h => h) (Or.inl ⟨by rfl, ?_⟩) ?_ ?_
             rotate_left
             ·
              intro w'
              go_simp
              with_reducible rfl
             rotate_left
             ·
              simp only [Act.put, List.setIfInBounds_toArray, List.set_cons_zero, List.set_cons_succ, i64_w, i32_w]
              rfl
             refine pure_ (i := 3) (N := some 31) (v := ?_) (a' := ?_) #[true, false, false, true, false, false, false, false, false, false, false, false, false, false, false, false, false, false, false, false] rfl rfl (any_of HT_.out (by kernel_rfl)) (fun _ _ _ h => h) (Or.inl ⟨by rfl, ?_⟩) ?_ ?_
             rotate_left
             ·
              intro w'
              go_simp
              with_reducible rfl
             rotate_left
             ·
              simp only [Act.put, List.setIfInBounds_toArray, List.set_cons_zero, List.set_cons_succ, i64_w, i32_w]
              rfl
             refine pure_ (i := 6) (N := some 34) (v := ?_) (a' := ?_) #[true, false, false, true, false, false, true, false, false, false, false, false, false, false, false, false, false, false, false, false] rfl rfl (any_of HT_.out (by kernel_rfl)) (fun _ _ _ h => h) (Or.inl ⟨by rfl, ?_⟩) ?_ ?_
             rotate_left
             ·
              intro w'
              go_simp
              with_reducible rfl
             rotate_left
             ·
              simp only [Act.put, List.setIfInBounds_toArray, List.set_cons_zero, List.set_cons_succ, i64_w, i32_w]
              rfl
             refine pure_ (i := 8) (N := some 36) (v := ?_) (a' := ?_) #[true, false, false, true, false, false, true, false, true, false, false, false, false, false, false, false, false, false, false, false] rfl rfl (any_of HT_.out (by kernel_rfl)) (fun _ _ _ h => h) (Or.inl ⟨by rfl, ?_⟩) ?_ ?_
             rotate_left
             ·
              intro w'
              go_simp
              with_reducible rfl
             rotate_left
             ·
              simp only [Act.put, List.setIfInBounds_toArray, List.set_cons_zero, List.set_cons_succ, i64_w, i32_w]
              rfl
             refine pure_ (i := 10) (N := some 38) (v := ?_) (a' := ?_) #[true, false, false, true, false, false, true, false, true, false, true, false, false, false, false, false, false, false, false, false] rfl rfl (any_of HT_.out (by kernel_rfl)) (fun _ _ _ h => h) (Or.inl ⟨by rfl, ?_⟩) ?_ ?_
             rotate_left
             ·
              intro w'
              go_simp
              with_reducible rfl
             rotate_left
             ·
              simp only [Act.put, List.setIfInBounds_toArray, List.set_cons_zero, List.set_cons_succ, i64_w, i32_w]
              rfl
             refine pure_ (i := 13) (N := some 41) (v := ?_) (a' := ?_) #[true, false, false, true, false, false, true, false, true, false, true, false, false, true, false, false, false, false, false, false] rfl rfl (any_of HT_.out (by kernel_rfl)) (fun _ _ _ h => h) (Or.inl ⟨by rfl, ?_⟩) ?_ ?_
             rotate_left
             ·
              intro w'
              go_simp
              with_reducible rfl
             rotate_left
             ·
              simp only [Act.put, List.setIfInBounds_toArray, List.set_cons_zero, List.set_cons_succ, i64_w, i32_w]
              rfl
             refine pure_ (i := 14) (N := some 42) (v := ?_) (a' := ?_) #[true, false, false, true, false, false, true, false, true, false, true, false, false, true, true, false, false, false, false, false] rfl rfl (any_of HT_.out (by kernel_rfl)) (fun _ _ _ h => h) (Or.inl ⟨by rfl, ?_⟩) ?_ ?_
             rotate_left
             ·
              intro w'
              go_simp
              with_reducible rfl
             rotate_left
             ·
              simp only [Act.put, List.setIfInBounds_toArray, List.set_cons_zero, List.set_cons_succ, i64_w, i32_w]
              rfl
             refine pure_ (i := 15) (N := some 43) (v := ?_) (a' := ?_) #[true, false, false, true, false, false, true, false, true, false, true, false, false, true, true, true, false, false, false, false] rfl rfl (any_of HT_.out (by kernel_rfl)) (fun _ _ _ h => h) (Or.inl ⟨by rfl, ?_⟩) ?_ ?_
             rotate_left
             ·
              intro w'
              go_simp
              with_reducible rfl
             rotate_left
             ·
              simp only [Act.put, List.setIfInBounds_toArray, List.set_cons_zero, List.set_cons_succ, i64_w, i32_w]
              rfl
             refine pure_ (i := 16) (N := some 44) (v := ?_) (a' := ?_) #[true, false, false, true, false, false, true, false, true, false, true, false, false, true, true, true, true, false, false, false] rfl rfl (any_of HT_.out (by kernel_rfl)) (fun _ _ _ h => h) (Or.inl ⟨by rfl, ?_⟩) ?_ ?_
             rotate_left
             ·
              intro w'
              go_simp
              with_reducible rfl
             rotate_left
             ·
              simp only [Act.put, List.setIfInBounds_toArray, List.set_cons_zero, List.set_cons_succ, i64_w, i32_w]
              rfl
             refine take_ (i := 1) (N := some 29) (v := ?_) (a' := ?_) #[true, true, false, true, false, false, true, false, true, false, true, false, false, true, true, true, true, false, false, false] rfl rfl (take_ofW HT_.out HW_.out (by kernel_rfl)) (fun _ _ _ h => h) (Or.inl ⟨by rfl, ?_⟩) hHeld ?_ ?_
             rotate_left
             ·
              intro w' _
              go_simp
              with_reducible rfl
             rotate_left
             ·
              simp only [Act.put, List.setIfInBounds_toArray, List.set_cons_zero, List.set_cons_succ, i64_w, i32_w]
              rfl
             refine pure_ (i := 2) (N := some 30) (v := ?_) (a' := ?_) #[true, true, true, true, false, false, true, false, true, false, true, false, false, true, true, true, true, false, false, false] rfl rfl (any_of HT_.out (by kernel_rfl)) (fun _ _ _ h => h) (Or.inl ⟨by rfl, ?_⟩) ?_ ?_
             rotate_left
             ·
              intro w'
              go_simp
              with_reducible rfl
             rotate_left
             ·
              simp only [Act.put, List.setIfInBounds_toArray, List.set_cons_zero, List.set_cons_succ, i64_w, i32_w]
              rfl
             refine take_ (i := 4) (N := some 32) (v := ?_) (a' := ?_) #[true, true, true, true, true, false, true, false, true, false, true, false, false, true, true, true, true, false, false, false] rfl rfl (take_ofW HT_.out HW_.out (by kernel_rfl)) (fun _ _ _ h => h) (Or.inl ⟨by rfl, ?_⟩) hHeld ?_ ?_
             rotate_left
             ·
              intro w' _
              go_simp
              with_reducible rfl
             rotate_left
             ·
              simp only [Act.put, List.setIfInBounds_toArray, List.set_cons_zero, List.set_cons_succ, i64_w, i32_w]
              rfl
             refine pure_ (i := 5) (N := some 33) (v := ?_) (a' := ?_) #[true, true, true, true, true, true, true, false, true, false, true, false, false, true, true, true, true, false, false, false] rfl rfl (any_of HT_.out (by kernel_rfl)) (fun _ _ _ h => h) (Or.inl ⟨by rfl, ?_⟩) ?_ ?_
             rotate_left
             ·
              intro w'
              go_simp
              with_reducible rfl
             rotate_left
             ·
              simp only [Act.put, List.setIfInBounds_toArray, List.set_cons_zero, List.set_cons_succ, i64_w, i32_w]
              rfl
             refine take_ (i := 7) (N := some 35) (v := ?_) (a' := ?_) #[true, true, true, true, true, true, true, true, true, false, true, false, false, true, true, true, true, false, false, false] rfl rfl (take_ofW HT_.out HW_.out (by kernel_rfl)) (fun _ _ _ h => h) (Or.inl ⟨by rfl, ?_⟩) hHeld ?_ ?_
             rotate_left
             ·
              intro w' _
              go_simp
              with_reducible rfl
             rotate_left
             ·
              simp only [Act.put, List.setIfInBounds_toArray, List.set_cons_zero, List.set_cons_succ, i64_w, i32_w]
              rfl
             refine take_ (i := 9) (N := some 37) (v := ?_) (a' := ?_) #[true, true, true, true, true, true, true, true, true, true, true, false, false, true, true, true, true, false, false, false] rfl rfl (take_ofW HT_.out HW_.out (by kernel_rfl)) (fun _ _ _ h => h) (Or.inl ⟨by rfl, ?_⟩) hHeld ?_ ?_
             rotate_left
             ·
              intro w' _
              go_simp
              with_reducible rfl
             rotate_left
             ·
              simp only [Act.put, List.setIfInBounds_toArray, List.set_cons_zero, List.set_cons_succ, i64_w, i32_w]
              rfl
             refine take_ (i := 11) (N := some 39) (v := ?_) (a' := ?_) #[true, true, true, true, true, true, true, true, true, true, true, true, false, true, true, true, true, false, false, false] rfl rfl (take_ofW HT_.out HW_.out (by kernel_rfl)) (fun _ _ _ h => h) (Or.inl ⟨by rfl, ?_⟩) hHeld ?_ ?_
             rotate_left
             ·
              intro w' _
              go_simp
              with_reducible rfl
             rotate_left
             ·
              simp only [Act.put, List.setIfInBounds_toArray, List.set_cons_zero, List.set_cons_succ, i64_w, i32_w]
              rfl
             refine pure_ (i := 12) (N := some 40) (v := ?_) (a' := ?_) #[true, true, true, true, true, true, true, true, true, true, true, true, true, true, true, true, true, false, false, false] rfl rfl (any_of HT_.out (by kernel_rfl)) (fun _ _ _ h => h) (Or.inl ⟨by rfl, ?_⟩) ?_ ?_
             rotate_left
             ·
              intro w'
              go_simp
              with_reducible rfl
             rotate_left
             ·
              simp only [Act.put, List.setIfInBounds_toArray, List.set_cons_zero, List.set_cons_succ, i64_w, i32_w]
              rfl
             refine one_ (i := 17) (N := none) #[true, true, true, true, true, true, true, true, true, true, true, true, true, true, true, true, true, true, false, false] rfl rfl (one_of HT_.out (by kernel_rfl)) (by decide) (fun K hK => ?_)
             have hs27 : w26.cell? ⟨gb205, 0, none⟩ = some (.int .u8 0) := (blk_cell BK205.out 0).trans rfl
             have hfs27 := blk_frozen BK205.out 0
             have hs28 : w26.cell? ⟨gb205, 1, none⟩ = some (.int .u8 0) := (blk_cell BK205.out 1).trans rfl
             have hfs28 := blk_frozen BK205.out 1
             have hs29 : w26.cell? ⟨gb205, 2, none⟩ = some (.int .u8 0) := (blk_cell BK205.out 2).trans rfl
             have hfs29 := blk_frozen BK205.out 2
             have hs30 : w26.cell? ⟨gb205, 3, none⟩ = some (.int .u8 0) := (blk_cell BK205.out 3).trans rfl
             have hfs30 := blk_frozen BK205.out 3
             have hs31 : w26.cell? ⟨gb205, 4, none⟩ = some (.int .u8 0) := (blk_cell BK205.out 4).trans rfl
             have hfs31 := blk_frozen BK205.out 4
             refine skip_ (w1 := ?_) (by rfl) rfl ?_ ?_
             rotate_left
             ·
              go_simp
              rfl
             refine hK.out _ _ trivial (fun hHeld => ?_)
             clear hK K
             refine pure_ (i := 18) (N := some 3) (v := ?_) (a' := ?_) #[true, true, true, true, true, true, true, true, true, true, true, true, true, true, true, true, true, true, true, false] rfl rfl (any_of HT_.out (by kernel_rfl)) (fun _ _ _ h => h) (Or.inl ⟨by rfl, ?_⟩) ?_ ?_
             rotate_left
             ·
              intro w'
              go_simp
              with_reducible rfl
             rotate_left
             ·
              simp only [Act.put, List.setIfInBounds_toArray, List.set_cons_zero, List.set_cons_succ, i64_w, i32_w]
              rfl
             refine pure_ (i := 19) (N := some 4) (v := ?_) (a' := ?_) #[true, true, true, true, true, true, true, true, true, true, true, true, true, true, true, true, true, true, true, true] rfl rfl (any_of HT_.out (by kernel_rfl)) (fun _ _ _ h => h) (Or.inl ⟨by rfl, ?_⟩) ?_ ?_
             rotate_left
             ·
              intro w'
              go_simp
              with_reducible rfl
             rotate_left
             ·
              simp only [Act.put, List.setIfInBounds_toArray, List.set_cons_zero, List.set_cons_succ, i64_w, i32_w]
              rfl
             refine done_ (done_of HT_.out (by kernel_rfl)) ?_
             try go_wp2
             refine bodyPost_ret (results_ctt rfl _ _ gb205 87 #[.int .u8 ((Int.tdiv (bt a0 0) 32) % 256), .int .u8 (Int.tmod (bt a0 0) 32), .int .u8 (bt a0 1), .int .u8 (bt a0 2), .int .u8 (bt a0 3)] (0, 0) _ rfl (by (with_reducible repeat (first | refine blk_drewN ?_ _ | refine blk_drew ?_ | refine blk_alloc ?_ _)); refine blk_put (cs := #[.int .u8 ((Int.tdiv (bt a0 0) 32) % 256), .int .u8 (Int.tmod (bt a0 0) 32), .int .u8 (bt a0 1), .int .u8 (bt a0 2), .int .u8 0]) ?_ 4 _ rfl; (with_reducible repeat (first | refine blk_drewN ?_ _ | refine blk_drew ?_ | refine blk_alloc ?_ _)); refine blk_put (cs := #[.int .u8 ((Int.tdiv (bt a0 0) 32) % 256), .int .u8 (Int.tmod (bt a0 0) 32), .int .u8 (bt a0 1), .int .u8 0, .int .u8 0]) ?_ 3 _ rfl; (with_reducible repeat (first | refine blk_drewN ?_ _ | refine blk_drew ?_ | refine blk_alloc ?_ _)); refine blk_put (cs := #[.int .u8 ((Int.tdiv (bt a0 0) 32) % 256), .int .u8 (Int.tmod (bt a0 0) 32), .int .u8 0, .int .u8 0, .int .u8 0]) ?_ 2 _ rfl; (with_reducible repeat (first | refine blk_drewN ?_ _ | refine blk_drew ?_ | refine blk_alloc ?_ _)); refine blk_put (cs := #[.int .u8 ((Int.tdiv (bt a0 0) 32) % 256), .int .u8 0, .int .u8 0, .int .u8 0, .int .u8 0]) ?_ 1 _ rfl; (with_reducible repeat (first | refine blk_drewN ?_ _ | refine blk_drew ?_ | refine blk_alloc ?_ _)); refine blk_put (cs := #[.int .u8 0, .int .u8 0, .int .u8 0, .int .u8 0, .int .u8 0]) ?_ 0 _ rfl; (with_reducible repeat (first | refine blk_drewN ?_ _ | refine blk_drew ?_ | refine blk_alloc ?_ _)); exact BK205.out) Try.underlying87 rfl (by kernel_rfl)) rfl ?_
             exact ⟨by first | rfl | (simp [errW_none, errW_some] <;> rfl) | (simp only [← hji11]; first | rfl | (simp [errW_none, errW_some] <;> rfl)) | (simp [*, errW_none, errW_some] <;> rfl), by repeat (first | (with_reducible first | exact HB.out | apply below_alloc | apply pw_below_drewN | apply below_drew1 | refine below_set ?_ GE205.out) | exact HB.out)⟩
            ·
             rw [if_neg c25] at H
             exact absurd H (by simp)
           ·
            rw [if_neg c24] at H
            exact absurd H (by simp)
          ·
           rw [if_neg c21] at H
           exact absurd H (by simp)
         ·
          rw [if_neg c19] at H
          exact absurd H (by simp)
        ·
         rw [if_neg c16] at H
         exact absurd H (by simp)
       ·
        rw [if_neg c15] at H
        have c15b0 : ((bt a0 (ji11)) == 0) = false := beq_eq_false_iff_ne.mpr c15
        have c15b1 : ((bt a0 (ji11)) != 0) = true := bne_iff_ne.mpr c15
        simp only [Option.some.injEq, Prod.mk.injEq] at H
        obtain ⟨rfl, rfl, rfl, rfl, rfl, rfl, rfl⟩ := H
        have p10 : 0 ≤ (3 : Int) := (by omega)
        have q10 : 3 < a0.size := (by have : (3 : Int) < (a0.size : Int) := of_decide_eq_true (by first | (with_reducible assumption) | assumption); omega)
        have hx10 : ∀ h : 3 < a0.size, ((a0[3]'h).toNat : Int) = bt a0 3 := bt_at a0 3
        clear p10
        have qi10 : (3 < (a0.size : Int)) = True := eq_true (of_decide_eq_true (by first | (with_reducible assumption) | assumption))
        replace q10 := eq_true q10
        have p14 : 0 ≤ ((ji11) : Int) := of_decide_eq_true (by first | (with_reducible assumption) | assumption)
        have q14 : (ji11) < (a0.size : Int) := of_decide_eq_true (by first | (with_reducible assumption) | assumption)
        have hx14 := bt_at a0 (ji11)
        replace p14 := eq_true p14
        replace q14 := eq_true q14
        have hcz32_0 : wc.cell? ⟨gb205, 0, none⟩ = some (.int .u8 0) := (blk_cell BK205.out 0).trans rfl
        have hcz32_1 : wc.cell? ⟨gb205, 1, none⟩ = some (.int .u8 0) := (blk_cell BK205.out 1).trans rfl
        have hcz32_2 : wc.cell? ⟨gb205, 2, none⟩ = some (.int .u8 0) := (blk_cell BK205.out 2).trans rfl
        have hcz32_3 : wc.cell? ⟨gb205, 3, none⟩ = some (.int .u8 0) := (blk_cell BK205.out 3).trans rfl
        have hcz32_4 : wc.cell? ⟨gb205, 4, none⟩ = some (.int .u8 0) := (blk_cell BK205.out 4).trans rfl
        have hfz32_0 := blk_frozen BK205.out 0
        have hfz32_1 := blk_frozen BK205.out 1
        have hfz32_2 := blk_frozen BK205.out 2
        have hfz32_3 := blk_frozen BK205.out 3
        have hfz32_4 := blk_frozen BK205.out 4
        go_wp2
        refine bodyPost_ret (results_ctt rfl _ _ gb205 87 #[.int .u8 0, .int .u8 0, .int .u8 0, .int .u8 0, .int .u8 0] (0, 0) _ rfl (by (with_reducible repeat (first | refine blk_drewN ?_ _ | refine blk_drew ?_ | refine blk_alloc ?_ _)); refine blk_put (cs := #[.int .u8 0, .int .u8 0, .int .u8 0, .int .u8 0, .int .u8 0]) ?_ 4 _ rfl; (with_reducible repeat (first | refine blk_drewN ?_ _ | refine blk_drew ?_ | refine blk_alloc ?_ _)); refine blk_put (cs := #[.int .u8 0, .int .u8 0, .int .u8 0, .int .u8 0, .int .u8 0]) ?_ 3 _ rfl; (with_reducible repeat (first | refine blk_drewN ?_ _ | refine blk_drew ?_ | refine blk_alloc ?_ _)); refine blk_put (cs := #[.int .u8 0, .int .u8 0, .int .u8 0, .int .u8 0, .int .u8 0]) ?_ 2 _ rfl; (with_reducible repeat (first | refine blk_drewN ?_ _ | refine blk_drew ?_ | refine blk_alloc ?_ _)); refine blk_put (cs := #[.int .u8 0, .int .u8 0, .int .u8 0, .int .u8 0, .int .u8 0]) ?_ 1 _ rfl; (with_reducible repeat (first | refine blk_drewN ?_ _ | refine blk_drew ?_ | refine blk_alloc ?_ _)); refine blk_put (cs := #[.int .u8 0, .int .u8 0, .int .u8 0, .int .u8 0, .int .u8 0]) ?_ 0 _ rfl; (with_reducible repeat (first | refine blk_drewN ?_ _ | refine blk_drew ?_ | refine blk_alloc ?_ _)); exact BK205.out) Try.underlying87 rfl (by kernel_rfl)) rfl ?_
        exact ⟨by first | rfl | (simp [errW_none, errW_some] <;> rfl) | (simp only [← hji11]; first | rfl | (simp [errW_none, errW_some] <;> rfl)) | (simp [*, errW_none, errW_some] <;> rfl), by repeat (first | (with_reducible first | exact HB.out | apply below_alloc | apply pw_below_drewN | apply below_drew1 | refine below_set ?_ GE205.out) | exact HB.out)⟩
      ·
       rw [if_neg c13] at H
       exact absurd H (by simp)
     ·
      rw [if_neg c12] at H
      exact absurd H (by simp)
    ·
     rw [if_neg c9] at H
     exact absurd H (by simp)

/-! ### carouselref04_Is: function 48 -/
def carouselref04_Is.f (a0_0 : Int) (a0_1 : Int) (a0_2 : Int) (a0_3 : Int) (a0_4 : Int) (a1 : Int) (a2 : Int) (a3 : Int) (a4 : Int) : Option (Int) := if a0_0 = a1 then (if a0_1 = a2 then (if a0_2 = a3 then (if a0_4 = a4 then (some 0) else (some 3)) else (some 8)) else (some 3)) else (some 7)
set_option maxHeartbeats 8000000 in
set_option maxRecDepth 100000 in
theorem carouselref04_Is.calls (a0_0 : Int) (a0_1 : Int) (a0_2 : Int) (a0_3 : Int) (a0_4 : Int) (a1 : Int) (a2 : Int) (a3 : Int) (a4 : Int) (r : Int) (w : World) (h : carouselref04_Is.f a0_0 a0_1 a0_2 a0_3 a0_4 a1 a2 a3 a4 = some r) :
  Calls Try.prog 48 #[.agg #[.int .u8 a0_0, .int .u8 a0_1, .int .u8 a0_2, .int .u8 a0_3, .int .u8 a0_4], .int .u8 a1, .int .u8 a2, .int .u8 a3, .int .u8 a4] w fun e w' => e = .returned (.int .i64 r) ∧ Below w.heap.size w w' := by
 have hu87 := Try.underlying87
 have HB := Aside0.mk (Below.refl w.heap.size w)
 have H : (if a0_0 = a1 then (if a0_1 = a2 then (if a0_2 = a3 then (if a0_4 = a4 then (some 0) else (some 3)) else (some 8)) else (some 3)) else (some 7)) = some r := h
 clear h
 by_cases c6 : a0_0 = a1
 ·
  rw [if_pos c6] at H
  have c6b0 : (a0_0 == a1) = true := beq_iff_eq.mpr c6
  have c6b1 : (a0_0 != a1) = false := bne_eq_false_iff_eq.mpr c6
  clear c6
  by_cases c7 : a0_1 = a2
  ·
   rw [if_pos c7] at H
   have c7b0 : (a0_1 == a2) = true := beq_iff_eq.mpr c7
   have c7b1 : (a0_1 != a2) = false := bne_eq_false_iff_eq.mpr c7
   clear c7
   by_cases c8 : a0_2 = a3
   ·
    rw [if_pos c8] at H
    have c8b0 : (a0_2 == a3) = true := beq_iff_eq.mpr c8
    have c8b1 : (a0_2 != a3) = false := bne_eq_false_iff_eq.mpr c8
    clear c8
    by_cases c9 : a0_4 = a4
    ·
     rw [if_pos c9] at H
     have c9b0 : (a0_4 == a4) = true := beq_iff_eq.mpr c9
     have c9b1 : (a0_4 != a4) = false := bne_eq_false_iff_eq.mpr c9
     clear c9
     obtain rfl := Option.some.inj H
     go_enter Try.func48, Try.ntmps48
     go_wp2_with (first | ((with_reducible refine gate_dst (N := 5) rfl ?_); refine box_event ?hg (N := 5) ?hd (cs := #[.int .u8 a0_0, .int .u8 a0_1, .int .u8 a0_2, .int .u8 a0_3, .int .u8 a0_4]) (t := 87) ?hr ?_; (case hd => rfl); (case hg => rfl); (case hr => first | (go_simp; done) | (go_simp; rfl)); intro gb206 hg w10 hbox hb; have n0_ := Aside0.mk (below_step (by repeat (first | (with_reducible first | exact HB.out | apply below_alloc | apply pw_below_drewN | apply below_drew1) | exact HB.out)) hb); have n1_ := Aside0.mk (hbox); have n2_ := Aside0.mk ((by rw [hg]; exact (below_size (by repeat (first | (with_reducible first | exact HB.out | apply below_alloc | apply pw_below_drewN | apply below_drew1) | exact HB.out))) : w.heap.size ≤ gb206)); have n3_ := Aside0.mk ((by rw [hg]; exact (below_size (by repeat (first | (with_reducible first | exact HB.out | apply below_alloc | apply pw_below_drewN | apply below_drew1) | exact HB.out))) : w.heap.size ≤ gb206)); clear HB; have HB := n0_; have BK206 := n1_; have GW206 := n2_; have GE206 := n3_; clear n0_ n1_ n2_ n3_; clear hb hbox hg; have hcz11_0 : w10.cell? ⟨gb206, 0, none⟩ = some (.int .u8 a0_0) := (blk_cell BK206.out 0).trans rfl; have hcz11_1 : w10.cell? ⟨gb206, 1, none⟩ = some (.int .u8 a0_1) := (blk_cell BK206.out 1).trans rfl; have hcz11_2 : w10.cell? ⟨gb206, 2, none⟩ = some (.int .u8 a0_2) := (blk_cell BK206.out 2).trans rfl; have hcz11_3 : w10.cell? ⟨gb206, 3, none⟩ = some (.int .u8 a0_3) := (blk_cell BK206.out 3).trans rfl; have hcz11_4 : w10.cell? ⟨gb206, 4, none⟩ = some (.int .u8 a0_4) := (blk_cell BK206.out 4).trans rfl; have hfz11_0 := blk_frozen BK206.out 0; have hfz11_1 := blk_frozen BK206.out 1; have hfz11_2 := blk_frozen BK206.out 2; have hfz11_3 := blk_frozen BK206.out 3; have hfz11_4 := blk_frozen BK206.out 4))
     go_ret
     exact ⟨by first | rfl | (simp [errW_none, errW_some] <;> rfl) | (simp [*, errW_none, errW_some] <;> rfl), by repeat (first | (with_reducible first | exact HB.out | apply below_alloc | apply pw_below_drewN | apply below_drew1 | refine below_set ?_ GE206.out) | exact HB.out)⟩
    ·
     rw [if_neg c9] at H
     have c9b0 : (a0_4 == a4) = false := beq_eq_false_iff_ne.mpr c9
     have c9b1 : (a0_4 != a4) = true := bne_iff_ne.mpr c9
     obtain rfl := Option.some.inj H
     go_enter Try.func48, Try.ntmps48
     go_wp2_with (first | ((with_reducible refine gate_dst (N := 5) rfl ?_); refine box_event ?hg (N := 5) ?hd (cs := #[.int .u8 a0_0, .int .u8 a0_1, .int .u8 a0_2, .int .u8 a0_3, .int .u8 a0_4]) (t := 87) ?hr ?_; (case hd => rfl); (case hg => rfl); (case hr => first | (go_simp; done) | (go_simp; rfl)); intro gb206 hg w12 hbox hb; have n0_ := Aside0.mk (below_step (by repeat (first | (with_reducible first | exact HB.out | apply below_alloc | apply pw_below_drewN | apply below_drew1) | exact HB.out)) hb); have n1_ := Aside0.mk (hbox); have n2_ := Aside0.mk ((by rw [hg]; exact (below_size (by repeat (first | (with_reducible first | exact HB.out | apply below_alloc | apply pw_below_drewN | apply below_drew1) | exact HB.out))) : w.heap.size ≤ gb206)); have n3_ := Aside0.mk ((by rw [hg]; exact (below_size (by repeat (first | (with_reducible first | exact HB.out | apply below_alloc | apply pw_below_drewN | apply below_drew1) | exact HB.out))) : w.heap.size ≤ gb206)); clear HB; have HB := n0_; have BK206 := n1_; have GW206 := n2_; have GE206 := n3_; clear n0_ n1_ n2_ n3_; clear hb hbox hg; have hcz13_0 : w12.cell? ⟨gb206, 0, none⟩ = some (.int .u8 a0_0) := (blk_cell BK206.out 0).trans rfl; have hcz13_1 : w12.cell? ⟨gb206, 1, none⟩ = some (.int .u8 a0_1) := (blk_cell BK206.out 1).trans rfl; have hcz13_2 : w12.cell? ⟨gb206, 2, none⟩ = some (.int .u8 a0_2) := (blk_cell BK206.out 2).trans rfl; have hcz13_3 : w12.cell? ⟨gb206, 3, none⟩ = some (.int .u8 a0_3) := (blk_cell BK206.out 3).trans rfl; have hcz13_4 : w12.cell? ⟨gb206, 4, none⟩ = some (.int .u8 a0_4) := (blk_cell BK206.out 4).trans rfl; have hfz13_0 := blk_frozen BK206.out 0; have hfz13_1 := blk_frozen BK206.out 1; have hfz13_2 := blk_frozen BK206.out 2; have hfz13_3 := blk_frozen BK206.out 3; have hfz13_4 := blk_frozen BK206.out 4))
     go_ret
     exact ⟨by first | rfl | (simp [errW_none, errW_some] <;> rfl) | (simp [*, errW_none, errW_some] <;> rfl), by repeat (first | (with_reducible first | exact HB.out | apply below_alloc | apply pw_below_drewN | apply below_drew1 | refine below_set ?_ GE206.out) | exact HB.out)⟩
   ·
    rw [if_neg c8] at H
    have c8b0 : (a0_2 == a3) = false := beq_eq_false_iff_ne.mpr c8
    have c8b1 : (a0_2 != a3) = true := bne_iff_ne.mpr c8
    obtain rfl := Option.some.inj H
    go_enter Try.func48, Try.ntmps48
    go_wp2_with (first | ((with_reducible refine gate_dst (N := 5) rfl ?_); refine box_event ?hg (N := 5) ?hd (cs := #[.int .u8 a0_0, .int .u8 a0_1, .int .u8 a0_2, .int .u8 a0_3, .int .u8 a0_4]) (t := 87) ?hr ?_; (case hd => rfl); (case hg => rfl); (case hr => first | (go_simp; done) | (go_simp; rfl)); intro gb206 hg w14 hbox hb; have n0_ := Aside0.mk (below_step (by repeat (first | (with_reducible first | exact HB.out | apply below_alloc | apply pw_below_drewN | apply below_drew1) | exact HB.out)) hb); have n1_ := Aside0.mk (hbox); have n2_ := Aside0.mk ((by rw [hg]; exact (below_size (by repeat (first | (with_reducible first | exact HB.out | apply below_alloc | apply pw_below_drewN | apply below_drew1) | exact HB.out))) : w.heap.size ≤ gb206)); have n3_ := Aside0.mk ((by rw [hg]; exact (below_size (by repeat (first | (with_reducible first | exact HB.out | apply below_alloc | apply pw_below_drewN | apply below_drew1) | exact HB.out))) : w.heap.size ≤ gb206)); clear HB; have HB := n0_; have BK206 := n1_; have GW206 := n2_; have GE206 := n3_; clear n0_ n1_ n2_ n3_; clear hb hbox hg; have hcz15_0 : w14.cell? ⟨gb206, 0, none⟩ = some (.int .u8 a0_0) := (blk_cell BK206.out 0).trans rfl; have hcz15_1 : w14.cell? ⟨gb206, 1, none⟩ = some (.int .u8 a0_1) := (blk_cell BK206.out 1).trans rfl; have hcz15_2 : w14.cell? ⟨gb206, 2, none⟩ = some (.int .u8 a0_2) := (blk_cell BK206.out 2).trans rfl; have hcz15_3 : w14.cell? ⟨gb206, 3, none⟩ = some (.int .u8 a0_3) := (blk_cell BK206.out 3).trans rfl; have hcz15_4 : w14.cell? ⟨gb206, 4, none⟩ = some (.int .u8 a0_4) := (blk_cell BK206.out 4).trans rfl; have hfz15_0 := blk_frozen BK206.out 0; have hfz15_1 := blk_frozen BK206.out 1; have hfz15_2 := blk_frozen BK206.out 2; have hfz15_3 := blk_frozen BK206.out 3; have hfz15_4 := blk_frozen BK206.out 4))
    go_ret
    exact ⟨by first | rfl | (simp [errW_none, errW_some] <;> rfl) | (simp [*, errW_none, errW_some] <;> rfl), by repeat (first | (with_reducible first | exact HB.out | apply below_alloc | apply pw_below_drewN | apply below_drew1 | refine below_set ?_ GE206.out) | exact HB.out)⟩
  ·
   rw [if_neg c7] at H
   have c7b0 : (a0_1 == a2) = false := beq_eq_false_iff_ne.mpr c7
   have c7b1 : (a0_1 != a2) = true := bne_iff_ne.mpr c7
   obtain rfl := Option.some.inj H
   go_enter Try.func48, Try.ntmps48
   go_wp2_with (first | ((with_reducible refine gate_dst (N := 5) rfl ?_); refine box_event ?hg (N := 5) ?hd (cs := #[.int .u8 a0_0, .int .u8 a0_1, .int .u8 a0_2, .int .u8 a0_3, .int .u8 a0_4]) (t := 87) ?hr ?_; (case hd => rfl); (case hg => rfl); (case hr => first | (go_simp; done) | (go_simp; rfl)); intro gb206 hg w16 hbox hb; have n0_ := Aside0.mk (below_step (by repeat (first | (with_reducible first | exact HB.out | apply below_alloc | apply pw_below_drewN | apply below_drew1) | exact HB.out)) hb); have n1_ := Aside0.mk (hbox); have n2_ := Aside0.mk ((by rw [hg]; exact (below_size (by repeat (first | (with_reducible first | exact HB.out | apply below_alloc | apply pw_below_drewN | apply below_drew1) | exact HB.out))) : w.heap.size ≤ gb206)); have n3_ := Aside0.mk ((by rw [hg]; exact (below_size (by repeat (first | (with_reducible first | exact HB.out | apply below_alloc | apply pw_below_drewN | apply below_drew1) | exact HB.out))) : w.heap.size ≤ gb206)); clear HB; have HB := n0_; have BK206 := n1_; have GW206 := n2_; have GE206 := n3_; clear n0_ n1_ n2_ n3_; clear hb hbox hg; have hcz17_0 : w16.cell? ⟨gb206, 0, none⟩ = some (.int .u8 a0_0) := (blk_cell BK206.out 0).trans rfl; have hcz17_1 : w16.cell? ⟨gb206, 1, none⟩ = some (.int .u8 a0_1) := (blk_cell BK206.out 1).trans rfl; have hcz17_2 : w16.cell? ⟨gb206, 2, none⟩ = some (.int .u8 a0_2) := (blk_cell BK206.out 2).trans rfl; have hcz17_3 : w16.cell? ⟨gb206, 3, none⟩ = some (.int .u8 a0_3) := (blk_cell BK206.out 3).trans rfl; have hcz17_4 : w16.cell? ⟨gb206, 4, none⟩ = some (.int .u8 a0_4) := (blk_cell BK206.out 4).trans rfl; have hfz17_0 := blk_frozen BK206.out 0; have hfz17_1 := blk_frozen BK206.out 1; have hfz17_2 := blk_frozen BK206.out 2; have hfz17_3 := blk_frozen BK206.out 3; have hfz17_4 := blk_frozen BK206.out 4))
   go_ret
   exact ⟨by first | rfl | (simp [errW_none, errW_some] <;> rfl) | (simp [*, errW_none, errW_some] <;> rfl), by repeat (first | (with_reducible first | exact HB.out | apply below_alloc | apply pw_below_drewN | apply below_drew1 | refine below_set ?_ GE206.out) | exact HB.out)⟩
 ·
  rw [if_neg c6] at H
  have c6b0 : (a0_0 == a1) = false := beq_eq_false_iff_ne.mpr c6
  have c6b1 : (a0_0 != a1) = true := bne_iff_ne.mpr c6
  obtain rfl := Option.some.inj H
  go_enter Try.func48, Try.ntmps48
  go_wp2_with (first | ((with_reducible refine gate_dst (N := 5) rfl ?_); refine box_event ?hg (N := 5) ?hd (cs := #[.int .u8 a0_0, .int .u8 a0_1, .int .u8 a0_2, .int .u8 a0_3, .int .u8 a0_4]) (t := 87) ?hr ?_; (case hd => rfl); (case hg => rfl); (case hr => first | (go_simp; done) | (go_simp; rfl)); intro gb206 hg w18 hbox hb; have n0_ := Aside0.mk (below_step (by repeat (first | (with_reducible first | exact HB.out | apply below_alloc | apply pw_below_drewN | apply below_drew1) | exact HB.out)) hb); have n1_ := Aside0.mk (hbox); have n2_ := Aside0.mk ((by rw [hg]; exact (below_size (by repeat (first | (with_reducible first | exact HB.out | apply below_alloc | apply pw_below_drewN | apply below_drew1) | exact HB.out))) : w.heap.size ≤ gb206)); have n3_ := Aside0.mk ((by rw [hg]; exact (below_size (by repeat (first | (with_reducible first | exact HB.out | apply below_alloc | apply pw_below_drewN | apply below_drew1) | exact HB.out))) : w.heap.size ≤ gb206)); clear HB; have HB := n0_; have BK206 := n1_; have GW206 := n2_; have GE206 := n3_; clear n0_ n1_ n2_ n3_; clear hb hbox hg; have hcz19_0 : w18.cell? ⟨gb206, 0, none⟩ = some (.int .u8 a0_0) := (blk_cell BK206.out 0).trans rfl; have hcz19_1 : w18.cell? ⟨gb206, 1, none⟩ = some (.int .u8 a0_1) := (blk_cell BK206.out 1).trans rfl; have hcz19_2 : w18.cell? ⟨gb206, 2, none⟩ = some (.int .u8 a0_2) := (blk_cell BK206.out 2).trans rfl; have hcz19_3 : w18.cell? ⟨gb206, 3, none⟩ = some (.int .u8 a0_3) := (blk_cell BK206.out 3).trans rfl; have hcz19_4 : w18.cell? ⟨gb206, 4, none⟩ = some (.int .u8 a0_4) := (blk_cell BK206.out 4).trans rfl; have hfz19_0 := blk_frozen BK206.out 0; have hfz19_1 := blk_frozen BK206.out 1; have hfz19_2 := blk_frozen BK206.out 2; have hfz19_3 := blk_frozen BK206.out 3; have hfz19_4 := blk_frozen BK206.out 4))
  go_ret
  exact ⟨by first | rfl | (simp [errW_none, errW_some] <;> rfl) | (simp [*, errW_none, errW_some] <;> rfl), by repeat (first | (with_reducible first | exact HB.out | apply below_alloc | apply pw_below_drewN | apply below_drew1 | refine below_set ?_ GE206.out) | exact HB.out)⟩

/-! ### carouselref01_bits: function 80 -/
def carouselref01_bits.l0 : Nat → Int → List Int → Int → Option (List Int × Bool)
  | 0, _, _, _ => none
  | k + 1, x0, x6, x7 => if x7 ≥ 0 then (if 0 ≤ x7 then (if x7 < (x6.length : Int) then (carouselref01_bits.l0 k (IntKind.u64.wrap (Int.tdiv x0 2)) (x6.set (x7 : Int).toNat (wrap64 (Int.tmod x0 2))) (wrap64 (x7 - 1))) else (none)) else (none)) else (some (x6, (x0 == 0)))
def carouselref01_bits.f (k : Nat) (a0 : Int) (a1 : Int) : Option (List Int × Bool) := if 0 ≤ a1 then (if (a1 : Int).toNat ≤ 35184372088832 then (carouselref01_bits.l0 k a0 (List.replicate (a1 : Int).toNat 0) (wrap64 (a1 - 1))) else (none)) else (none)
theorem carouselref01_bits.mono_l : ∀ k, (∀ y0 y1 y2, LeO (carouselref01_bits.l0 k y0 y1 y2) (carouselref01_bits.l0 (k + 1) y0 y1 y2))
 | 0 => fun _ _ _ r h => by simp [carouselref01_bits.l0] at h
 | k + 1 => by
  have ih0 := carouselref01_bits.mono_l k
  ·
   intro y0 y1 y2
   unfold carouselref01_bits.l0
   repeat' first
   | (with_reducible exact ih0 _ _ _)
   | (with_reducible exact LeO.refl _)
   | (with_reducible exact LeO.none _)
   | (with_reducible refine LeO.ite ?_ ?_)
   | (with_reducible refine LeO.bind ?_ (fun _ => ?_))
   | exact ih0 _ _ _
   | exact LeO.none _
   | refine LeO.ite ?_ ?_
   | refine LeO.bind ?_ (fun _ => ?_)
theorem carouselref01_bits.mono : ∀ a0 a1 k, LeO (carouselref01_bits.f k a0 a1) (carouselref01_bits.f (k + 1) a0 a1) := by
 intro a0 a1 k
 have ih0 := carouselref01_bits.mono_l k
 unfold carouselref01_bits.f
 repeat' first
   | (with_reducible exact ih0 _ _ _)
   | (with_reducible exact LeO.refl _)
   | (with_reducible exact LeO.none _)
   | (with_reducible refine LeO.ite ?_ ?_)
   | (with_reducible refine LeO.bind ?_ (fun _ => ?_))
   | exact ih0 _ _ _
   | exact LeO.none _
   | refine LeO.ite ?_ ?_
   | refine LeO.bind ?_ (fun _ => ?_)
set_option maxHeartbeats 8000000 in
set_option maxRecDepth 100000 in
theorem carouselref01_bits.calls (k : Nat) (a0 : Int) (a1 : Int) (r1 : List Int) (r2 : Bool) (w : World) (h : carouselref01_bits.f k a0 a1 = some (r1, r2)) :
  Calls Try.prog 80 #[.int .u64 a0, .int .i64 a1] w fun e w' => ∃ v0_ : Value, e = .returned (.tuple #[v0_, .bool r2]) ∧ Kd.R (Kd.int .i64) 3 w' w.heap.size (fun _ => True) v0_ r1 ∧ Below w.heap.size w w' := by
 have HB := Aside0.mk (Below.refl w.heap.size w)
 have H : (if 0 ≤ a1 then (if (a1 : Int).toNat ≤ 35184372088832 then (carouselref01_bits.l0 k a0 (List.replicate (a1 : Int).toNat 0) (wrap64 (a1 - 1))) else (none)) else (none)) = some (r1, r2) := h
 clear h
 by_cases c3 : 0 ≤ a1
 ·
  rw [if_pos c3] at H
  have c3b0 := eq_true c3
  have c3b1 : decide (0 ≤ a1) = true := decide_eq_true c3
  clear c3
  by_cases c4 : (a1 : Int).toNat ≤ 35184372088832
  ·
   rw [if_pos c4] at H
   have c4b0 := eq_true c4
   have c4b1 : decide ((a1 : Int).toNat ≤ 35184372088832) = true := decide_eq_true c4
   clear c4
   obtain ⟨y207, hy207⟩ : ∃ y_ : List Int, y_ = (List.replicate (a1 : Int).toNat 0) := ⟨_, rfl⟩
   replace H : (carouselref01_bits.l0 k a0 y207 (wrap64 (a1 - 1))) = some (r1, r2) := by first | (rw [hy207]; with_reducible exact H) | (have H2_ := (Option.bind_some _ _).symm.trans H; rw [hy207]; with_reducible exact H2_) | (have H2_ := (Option.bind_some _ _).symm.trans H; with_reducible exact H2_) | with_reducible exact H | (rw [hy207]; exact H) | exact H
   have Ny207 := Aside0.mk hy207
   clear hy207
   have H' := Aside0.mk H
   clear H
   go_enter Try.func80, Try.ntmps80
   go_wp2_with (first | ((with_reducible refine gate_dst (N := 9) rfl ?_); refine Kd.R_make (Kd.int .i64) _ 3 rfl (N := 9) rfl 27 _ _ rfl a1 rfl rfl Try.underlying27 (.int .i64 0) 8 info3 rfl (by decide) (by omega) 0 (ok := fun _ => True) (okp := fun _ => True) rfl (fun _ hk => hk) trivial (of_decide_eq_true (by first | (with_reducible assumption) | assumption)) (Nat.le_trans (Nat.mul_le_mul_right _ (of_decide_eq_true (by first | (with_reducible assumption) | assumption) : a1.toNat ≤ 35184372088832)) (by omega)) (Below.refl _ _) (Nat.le_refl _) ?_; intro v208 w5 ho6 hb hg_ hnew_; clear hg_ hnew_; (first | rw [← Ny207.out] at ho6 | (simp only [Int.reduceToNat] at ho6; rw [← Ny207.out] at ho6)); have n0_ := Aside0.mk (Kd.R_lower ho6 (below_size (by repeat (first | (with_reducible first | exact HB.out | apply below_alloc | apply pw_below_drewN | apply below_drew1) | exact HB.out)))); have n1_ := Aside0.mk (below_step (by repeat (first | (with_reducible first | exact HB.out | apply below_alloc | apply pw_below_drewN | apply below_drew1) | exact HB.out)) hb); clear HB; have HO209 := n0_; have HB := n1_; clear n0_ n1_; clear hb ho6))
   go_loopg [0, 7] k (fun kq v0 v7 w' => ∃ (x0_1 : Int) (x6_1 : List Int) (x7_1 : Int), v0 = .int .u64 x0_1 ∧ v7 = .int .i64 x7_1 ∧ Aside0 (carouselref01_bits.l0 kq x0_1 x6_1 x7_1 = some (r1, r2)) ∧ Aside0 (kq ≤ k) ∧ Aside0 (Kd.R (Kd.int .i64) 3 w' w.heap.size (fun _ => True) v208 x6_1) ∧ Aside0 (Below w.heap.size w w'))
   case atStart => exact ⟨(a0), (y207), (wrap64 (a1 - 1)), (by first | rfl | (simp; done) | (simp [*]; done)), (by first | rfl | (simp; done) | (simp [*]; done)), H', ⟨Nat.le_refl _⟩, ⟨by (with_reducible repeat (first | apply Kd.R_alloc | apply Kd.R_drewN | apply Kd.R_drew)); exact HO209.out⟩, ⟨by repeat (first | (with_reducible first | exact HB.out | apply below_alloc | apply pw_below_drewN | apply below_drew1) | exact HB.out)⟩⟩
   case round =>
    clear H'
    try clear p2
    try clear c3
    try clear c3b0
    try clear c3b1
    try clear c4
    try clear c4b0
    try clear c4b1
    try clear p6
    obtain ⟨x0_1, x6_1, x7_1, rfl, rfl, HA, HK1, HO_6, HB⟩ := hrel
    cases gk with
    | zero => exact absurd HA.out (by simp [carouselref01_bits.l0])
    | succ k1 =>
     have H := HA.out
     clear HA
     simp only [carouselref01_bits.l0] at H
     by_cases c7 : x7_1 ≥ 0
     ·
      rw [if_pos c7] at H
      have c7b0 : decide (0 ≤ x7_1) = true := decide_eq_true c7
      clear c7
      by_cases c8 : 0 ≤ x7_1
      ·
       rw [if_pos c8] at H
       have c8b0 : decide (0 ≤ x7_1) = true := decide_eq_true c8
       clear c8
       by_cases c9 : x7_1 < (x6_1.length : Int)
       ·
        rw [if_pos c9] at H
        have c9b0 : decide (x7_1 < (x6_1.length : Int)) = true := decide_eq_true c9
        clear c9
        obtain ⟨y210, hy210⟩ : ∃ y_ : List Int, y_ = (x6_1.set (x7_1 : Int).toNat (wrap64 (Int.tmod x0_1 2))) := ⟨_, rfl⟩
        replace H : (carouselref01_bits.l0 k1 (IntKind.u64.wrap (Int.tdiv x0_1 2)) y210 (wrap64 (x7_1 - 1))) = some (r1, r2) := by first | (rw [hy210]; with_reducible exact H) | (have H2_ := (Option.bind_some _ _).symm.trans H; rw [hy210]; with_reducible exact H2_) | (have H2_ := (Option.bind_some _ _).symm.trans H; with_reducible exact H2_) | with_reducible exact H | (rw [hy210]; exact H) | exact H
        have Ny210 := Aside0.mk hy210
        clear hy210
        have H' := Aside0.mk H
        clear H
        have p10 : 0 ≤ (x7_1 : Int) := of_decide_eq_true (by first | (with_reducible assumption) | assumption)
        have q10 : (x7_1 : Int) < ((x6_1.length : Int) : Int) := of_decide_eq_true (by first | (with_reducible assumption) | assumption)
        obtain ⟨go10, co10, eo10, gb10, gl10, cl10, HG10⟩ := Kd.R_form HO_6.out (by omega)
        (first | cases eo10 | (injection eo10 with ea_ en_ ec_; (first | subst ea_ | (injection ea_ with ea_; subst ea_)); subst ec_; clear en_))
        have GB10 := Aside0.mk gb10
        have GG10 := Aside0.mk HG10
        clear gb10 gl10 HG10
        obtain ⟨hx10_0, hf10_0⟩ := Kd.R_celln 0 HO_6.out (x7_1 : Int) p10 q10
        replace p10 := eq_true p10
        replace q10 := eq_true q10
        have HP11 := Kd.R_putg HO_6.out (x7_1 : Int) (wrap64 (Int.tmod x0_1 2))
        go_wp2_with (first | ((with_reducible refine gate_store (t := 3) (p := 21) rfl ?_); refine store_event (t := 3) (p := 21) (v := ?vo_w12) (w1 := (wr.setCell ⟨go10, (x7_1 : Int).toNat, none⟩ (.int .i64 (wrap64 (Int.tmod x0_1 2))))) ?hg ?ho ?hn ?hr ?_; (case ho => rfl); (case hg => rfl); (case hn => rfl); (case hr => first | (go_simp; done) | (go_simp; rfl)); intro w12 hw; have hg : wr.grownBy w12 (some go10) := (by rw [hw]; exact HP11.2); have hp_ : Kd.R (Kd.int .i64) 3 w12 w.heap.size (fun _ => True) (.slice (some ⟨go10, 0, none⟩) x6_1.length co10) y210 := (by rw [hw, Ny210.out]; exact HP11.1); clear HP11; have n0_ := Aside0.mk (hp_); have n1_ := Aside0.mk ((by rw [hw]; exact below_set (HB.out) GB10.out : Below w.heap.size w w12)); clear HO_6; clear HB; have HO_6 := n0_; have HB := n1_; clear n0_ n1_; clear hg hw hp_))
        go_roundg k1
        case measure => have := HK1.out; omega
        case rel => exact ⟨(IntKind.u64.wrap (Int.tdiv x0_1 2)), (y210), (wrap64 (x7_1 - 1)), (by first | rfl | (simp; done) | (simp [*]; done)), (by first | rfl | (simp; done) | (simp [*]; done)), H', ⟨by have := HK1.out; omega⟩, ⟨by (with_reducible repeat (first | apply Kd.R_alloc | apply Kd.R_drewN | apply Kd.R_drew)); exact HO_6.out⟩, ⟨by repeat (first | (with_reducible first | exact HB.out | apply below_alloc | apply pw_below_drewN | apply below_drew1) | exact HB.out)⟩⟩
       ·
        rw [if_neg c9] at H
        exact absurd H (by simp)
      ·
       rw [if_neg c8] at H
       exact absurd H (by simp)
     ·
      rw [if_neg c7] at H
      have c7b0 : decide (0 ≤ x7_1) = false := decide_eq_false c7
      clear c7
      simp only [Option.some.injEq, Prod.mk.injEq] at H
      obtain ⟨rfl, rfl⟩ := H
      go_wp2
      go_ret2
      exact ⟨_, by first | rfl | (simp [errW_none, errW_some] <;> rfl) | (simp [*, errW_none, errW_some] <;> rfl), by (with_reducible repeat (first | apply Kd.R_alloc | apply Kd.R_drewN | apply Kd.R_drew)); exact HO_6.out, by repeat (first | (with_reducible first | exact HB.out | apply below_alloc | apply pw_below_drewN | apply below_drew1) | exact HB.out)⟩
  ·
   rw [if_neg c4] at H
   exact absurd H (by simp)
 ·
  rw [if_neg c3] at H
  exact absurd H (by simp)

end Go.Proofs.Ytmdaaphjndjakaf.PRapsOpens
