-- Written by a program of this work, after the translation.
import Derived.Test.YtmdaaphjndjakadPAllx0
import Derived.Test.YtmdaaphjndjakadPAllx5
namespace Go.Proofs.Ytmdaaphjndjakad.PAll
open Go.RowKit Go.Proofs.YtmdaaphjndjakadW.PrintWords Go.Proofs.YtmdaaphjndjakadW.PrintLast Go.Proofs.YtmdaaphjndjakadW.PrintMore
attribute [local go_sem] max2_int min2_int max_two min_two max_three min_three max_four min_four   -- for this text's walks alone
set_option linter.unusedVariables false
set_option linter.unusedSimpArgs false

/-! ### carouselref02_Parse: function 12 -/
mutual
def carouselref02_Parse.l0 : Nat → ByteArray → Int → Int → Option (Int × Int)
  | 0, _, _, _ => none
  | k + 1, x0, x4, x5 => if x5 < 6 then (if 0 ≤ (wrap64 (3 * x5)) then (if (wrap64 (3 * x5)) < (x0.size : Int) then ((carouselref02_digit.f k (bt x0 (wrap64 (3 * x5)))).bind fun t135 => (if 0 ≤ (wrap64 ((wrap64 (3 * x5)) + 1)) then (if (wrap64 ((wrap64 (3 * x5)) + 1)) < (x0.size : Int) then ((carouselref02_digit.f k (bt x0 (wrap64 ((wrap64 (3 * x5)) + 1)))).bind fun t136 => (if t135 < 0 then (carouselref02_Parse.j1 k x0 x4 x5 t135 t136 true) else (if t136 < 0 then (carouselref02_Parse.j1 k x0 x4 x5 t135 t136 true) else (if x5 < 5 then (if 0 ≤ (wrap64 ((wrap64 (3 * x5)) + 2)) then (if (wrap64 ((wrap64 (3 * x5)) + 2)) < (x0.size : Int) then (carouselref02_Parse.j1 k x0 x4 x5 t135 t136 ((bt x0 (wrap64 ((wrap64 (3 * x5)) + 2))) != 58)) else (none)) else (none)) else (carouselref02_Parse.j1 k x0 x4 x5 t135 t136 false))))) else (none)) else (none))) else (none)) else (none)) else (some (x4, 0))
def carouselref02_Parse.j1 : Nat → ByteArray → Int → Int → Int → Int → Bool → Option (Int × Int)
  | 0, _, _, _, _, _, _ => none
  | k + 1, x0, x4, x5, x6, x7, x43 => if x43 = true then (some (0, 3)) else (carouselref02_Parse.l0 k x0 (IntKind.u64.wrap ((IntKind.u64.wrap (x4 * 256)) + (IntKind.u64.wrap (wrap64 ((wrap64 (x6 * 16)) + x7))))) (wrap64 (x5 + 1)))
end
def carouselref02_Parse.f (k : Nat) (a0 : ByteArray) : Option (Int × Int) := if (a0.size : Int) = 17 then (carouselref02_Parse.l0 k a0 0 0) else (some (0, 3))
theorem carouselref02_Parse.mono_l : ∀ k, (∀ y0 y1 y2, LeO (carouselref02_Parse.l0 k y0 y1 y2) (carouselref02_Parse.l0 (k + 1) y0 y1 y2)) ∧ (∀ y0 y1 y2 y3 y4 y5, LeO (carouselref02_Parse.j1 k y0 y1 y2 y3 y4 y5) (carouselref02_Parse.j1 (k + 1) y0 y1 y2 y3 y4 y5))
  | 0 => ⟨fun _ _ _ r h => by simp [carouselref02_Parse.l0] at h, fun _ _ _ _ _ _ r h => by simp [carouselref02_Parse.j1] at h⟩
  | k + 1 => by
    obtain ⟨ih0, ih1⟩ := carouselref02_Parse.mono_l k
    refine ⟨?_, ?_⟩
    · intro y0 y1 y2
      unfold carouselref02_Parse.l0
      repeat' first
      | (with_reducible exact ih0 _ _ _)
      | (with_reducible exact ih1 _ _ _ _ _ _)
      | (with_reducible exact carouselref02_digit.mono _ _)
      | (with_reducible exact LeO.refl _)
      | (with_reducible exact LeO.none _)
      | (with_reducible refine LeO.ite ?_ ?_)
      | (with_reducible refine LeO.bind ?_ (fun _ => ?_))
      | exact ih0 _ _ _
      | exact ih1 _ _ _ _ _ _
      | exact carouselref02_digit.mono _ _
      | exact LeO.none _
      | refine LeO.ite ?_ ?_
      | refine LeO.bind ?_ (fun _ => ?_)
    · intro y0 y1 y2 y3 y4 y5
      unfold carouselref02_Parse.j1
      repeat' first
      | (with_reducible exact ih0 _ _ _)
      | (with_reducible exact ih1 _ _ _ _ _ _)
      | (with_reducible exact carouselref02_digit.mono _ _)
      | (with_reducible exact LeO.refl _)
      | (with_reducible exact LeO.none _)
      | (with_reducible refine LeO.ite ?_ ?_)
      | (with_reducible refine LeO.bind ?_ (fun _ => ?_))
      | exact ih0 _ _ _
      | exact ih1 _ _ _ _ _ _
      | exact carouselref02_digit.mono _ _
      | exact LeO.none _
      | refine LeO.ite ?_ ?_
      | refine LeO.bind ?_ (fun _ => ?_)
theorem carouselref02_Parse.mono : ∀ a0 k, LeO (carouselref02_Parse.f k a0) (carouselref02_Parse.f (k + 1) a0) := by
  intro a0 k
  obtain ⟨ih0, ih1⟩ := carouselref02_Parse.mono_l k
  unfold carouselref02_Parse.f
  repeat' first
      | (with_reducible exact ih0 _ _ _)
      | (with_reducible exact ih1 _ _ _ _ _ _)
      | (with_reducible exact carouselref02_digit.mono _ _)
      | (with_reducible exact LeO.refl _)
      | (with_reducible exact LeO.none _)
      | (with_reducible refine LeO.ite ?_ ?_)
      | (with_reducible refine LeO.bind ?_ (fun _ => ?_))
      | exact ih0 _ _ _
      | exact ih1 _ _ _ _ _ _
      | exact carouselref02_digit.mono _ _
      | exact LeO.none _
      | refine LeO.ite ?_ ?_
      | refine LeO.bind ?_ (fun _ => ?_)
set_option maxHeartbeats 8000000 in
set_option maxRecDepth 100000 in
theorem carouselref02_Parse.calls (k : Nat) (a0 : ByteArray) (r1 : Int) (r2 : Int) (w : World) (h : carouselref02_Parse.f k a0 = some (r1, r2)) :
    Calls Try.prog 12 #[.string a0] w fun e w' => e = .returned (.tuple #[.int .u64 r1, .int .i64 r2]) ∧ Drawn0 w w' := by
  have H : (if (a0.size : Int) = 17 then (carouselref02_Parse.l0 k a0 0 0) else (some (0, 3))) = some (r1, r2) := h
  clear h
  by_cases c2 : (a0.size : Int) = 17
  · rw [if_pos c2] at H
    have c2b0 : ((a0.size : Int) == 17) = true := beq_iff_eq.mpr c2
    have c2b1 : ((a0.size : Int) != 17) = false := bne_eq_false_iff_eq.mpr c2
    clear c2
    have H' := Aside0.mk H
    clear H
    go_enter Try.func12, Try.ntmps12
    go_wp2
    repeat (go_quiet (fail); try go_wp2)
    go_loopg [4, 5] k (fun kq v4 v5 w' => ∃ (x4_1 : Int) (x5_1 : Int), v4 = .int .u64 x4_1 ∧ v5 = .int .i64 x5_1 ∧ Aside0 (carouselref02_Parse.l0 kq a0 x4_1 x5_1 = some (r1, r2)) ∧ Aside0 (kq ≤ k) ∧ Drawn0 w w')
    case atStart => exact ⟨(0), (0), (by first | rfl | (simp; done) | (simp [*]; done)), (by first | rfl | (simp; done) | (simp [*]; done)), H', ⟨Nat.le_refl _⟩, by repeat (first | exact Drawn0.refl _ | apply Drawn0.step)⟩
    case round =>
      clear H'
      try clear c1
      try clear c2
      try clear c2b0
      try clear c2b1
      try clear p2
      obtain ⟨x4_1, x5_1, rfl, rfl, HA, HK1, ⟨m1, rfl⟩⟩ := hrel
      cases gk with
      | zero => exact absurd HA.out (by simp [carouselref02_Parse.l0])
      | succ k1 =>
        have H := HA.out
        clear HA
        simp only [carouselref02_Parse.l0] at H
        by_cases c3 : x5_1 < 6
        · rw [if_pos c3] at H
          have c3b0 : decide (x5_1 < 6) = true := decide_eq_true c3
          clear c3
          obtain ⟨ji4, hji4⟩ : ∃ j_ : Int, (wrap64 (3 * x5_1)) = j_ := ⟨_, rfl⟩
          replace H : (if 0 ≤ (ji4) then (if (ji4) < (a0.size : Int) then ((carouselref02_digit.f k1 (bt a0 (ji4))).bind fun t135 => (if 0 ≤ (wrap64 ((ji4) + 1)) then (if (wrap64 ((ji4) + 1)) < (a0.size : Int) then ((carouselref02_digit.f k1 (bt a0 (wrap64 ((ji4) + 1)))).bind fun t136 => (if t135 < 0 then (carouselref02_Parse.j1 k1 a0 x4_1 x5_1 t135 t136 true) else (if t136 < 0 then (carouselref02_Parse.j1 k1 a0 x4_1 x5_1 t135 t136 true) else (if x5_1 < 5 then (if 0 ≤ (wrap64 ((ji4) + 2)) then (if (wrap64 ((ji4) + 2)) < (a0.size : Int) then (carouselref02_Parse.j1 k1 a0 x4_1 x5_1 t135 t136 ((bt a0 (wrap64 ((ji4) + 2))) != 58)) else (none)) else (none)) else (carouselref02_Parse.j1 k1 a0 x4_1 x5_1 t135 t136 false))))) else (none)) else (none))) else (none)) else (none)) = some (r1, r2) := by first | (rw [hji4] at H; exact H) | (simp only [hji4] at H ⊢; exact H)
          have hji4w : (IntKind.i64.wrap (3 * x5_1)) = ji4 := (i64_w _).trans hji4
          by_cases c5 : 0 ≤ (ji4)
          · rw [if_pos c5] at H
            have c5b0 : decide (0 ≤ (ji4)) = true := decide_eq_true c5
            clear c5
            by_cases c6 : (ji4) < (a0.size : Int)
            · rw [if_pos c6] at H
              have c6b0 : decide ((ji4) < (a0.size : Int)) = true := decide_eq_true c6
              clear c6
              replace H := Option.bind_eq_some_iff.mp H
              obtain ⟨t135, A80, H⟩ := H
              replace H : (if 0 ≤ (wrap64 ((ji4) + 1)) then (if (wrap64 ((ji4) + 1)) < (a0.size : Int) then ((carouselref02_digit.f k1 (bt a0 (wrap64 ((ji4) + 1)))).bind fun t136 => (if t135 < 0 then (carouselref02_Parse.j1 k1 a0 x4_1 x5_1 t135 t136 true) else (if t136 < 0 then (carouselref02_Parse.j1 k1 a0 x4_1 x5_1 t135 t136 true) else (if x5_1 < 5 then (if 0 ≤ (wrap64 ((ji4) + 2)) then (if (wrap64 ((ji4) + 2)) < (a0.size : Int) then (carouselref02_Parse.j1 k1 a0 x4_1 x5_1 t135 t136 ((bt a0 (wrap64 ((ji4) + 2))) != 58)) else (none)) else (none)) else (carouselref02_Parse.j1 k1 a0 x4_1 x5_1 t135 t136 false))))) else (none)) else (none)) = some (r1, r2) := H
              have A8 := Aside0.mk A80
              clear A80
              obtain ⟨ji9, hji9⟩ : ∃ j_ : Int, (wrap64 ((ji4) + 1)) = j_ := ⟨_, rfl⟩
              replace H : (if 0 ≤ (ji9) then (if (ji9) < (a0.size : Int) then ((carouselref02_digit.f k1 (bt a0 (ji9))).bind fun t136 => (if t135 < 0 then (carouselref02_Parse.j1 k1 a0 x4_1 x5_1 t135 t136 true) else (if t136 < 0 then (carouselref02_Parse.j1 k1 a0 x4_1 x5_1 t135 t136 true) else (if x5_1 < 5 then (if 0 ≤ (wrap64 ((ji4) + 2)) then (if (wrap64 ((ji4) + 2)) < (a0.size : Int) then (carouselref02_Parse.j1 k1 a0 x4_1 x5_1 t135 t136 ((bt a0 (wrap64 ((ji4) + 2))) != 58)) else (none)) else (none)) else (carouselref02_Parse.j1 k1 a0 x4_1 x5_1 t135 t136 false))))) else (none)) else (none)) = some (r1, r2) := by first | (rw [hji9] at H; exact H) | (simp only [hji9] at H ⊢; exact H)
              (try rw [hji9] at A8)
              have hji9w : (IntKind.i64.wrap ((ji4) + 1)) = ji9 := (i64_w _).trans hji9
              by_cases c10 : 0 ≤ (ji9)
              · rw [if_pos c10] at H
                have c10b0 : decide (0 ≤ (ji9)) = true := decide_eq_true c10
                clear c10
                by_cases c11 : (ji9) < (a0.size : Int)
                · rw [if_pos c11] at H
                  have c11b0 : decide ((ji9) < (a0.size : Int)) = true := decide_eq_true c11
                  clear c11
                  replace H := Option.bind_eq_some_iff.mp H
                  obtain ⟨t136, A130, H⟩ := H
                  replace H : (if t135 < 0 then (carouselref02_Parse.j1 k1 a0 x4_1 x5_1 t135 t136 true) else (if t136 < 0 then (carouselref02_Parse.j1 k1 a0 x4_1 x5_1 t135 t136 true) else (if x5_1 < 5 then (if 0 ≤ (wrap64 ((ji4) + 2)) then (if (wrap64 ((ji4) + 2)) < (a0.size : Int) then (carouselref02_Parse.j1 k1 a0 x4_1 x5_1 t135 t136 ((bt a0 (wrap64 ((ji4) + 2))) != 58)) else (none)) else (none)) else (carouselref02_Parse.j1 k1 a0 x4_1 x5_1 t135 t136 false)))) = some (r1, r2) := H
                  have A13 := Aside0.mk A130
                  clear A130
                  have HC14 := Aside0.mk H
                  clear H
                  have p7 : 0 ≤ ((ji4) : Int) := of_decide_eq_true (by first | (with_reducible assumption) | assumption)
                  have q7 : (ji4) < (a0.size : Int) := of_decide_eq_true (by first | (with_reducible assumption) | assumption)
                  have hx7 := bt_at a0 (ji4)
                  replace p7 := eq_true p7
                  replace q7 := eq_true q7
                  go_upto_region 8 with (first | (go_at_call 36; (with_reducible refine (carouselref02_digit.calls k1 (bt a0 (ji4)) t135 _ A8.out).mono ?_); rintro e w' ⟨rfl, ⟨nd, rfl⟩⟩; (try first | exact ⟨rfl, _, World.drewN_drewN _ _ _⟩ | exact ⟨rfl, _, Eq.trans (World.drewN_drewN _ _ _) (congrArg (World.drewN _) (Nat.add_assoc _ _ _))⟩); have p12 : 0 ≤ ((ji9) : Int) := of_decide_eq_true (by first | (with_reducible assumption) | assumption); have q12 : (ji9) < (a0.size : Int) := of_decide_eq_true (by first | (with_reducible assumption) | assumption); have hx12 := bt_at a0 (ji9); replace p12 := eq_true p12; replace q12 := eq_true q12) | (go_at_call 36; (with_reducible refine (carouselref02_digit.calls k1 (bt a0 (ji9)) t136 _ A13.out).mono ?_); rintro e w' ⟨rfl, ⟨nd, rfl⟩⟩; (try first | exact ⟨rfl, _, World.drewN_drewN _ _ _⟩ | exact ⟨rfl, _, Eq.trans (World.drewN_drewN _ _ _) (congrArg (World.drewN _) (Nat.add_assoc _ _ _))⟩)))
                  repeat (go_quiet (first | (go_at_call 36; (with_reducible refine (carouselref02_digit.calls k1 (bt a0 (ji4)) t135 _ A8.out).mono ?_); rintro e w' ⟨rfl, ⟨nd, rfl⟩⟩; (try first | exact ⟨rfl, _, World.drewN_drewN _ _ _⟩ | exact ⟨rfl, _, Eq.trans (World.drewN_drewN _ _ _) (congrArg (World.drewN _) (Nat.add_assoc _ _ _))⟩); have p12 : 0 ≤ ((ji9) : Int) := of_decide_eq_true (by first | (with_reducible assumption) | assumption); have q12 : (ji9) < (a0.size : Int) := of_decide_eq_true (by first | (with_reducible assumption) | assumption); have hx12 := bt_at a0 (ji9); replace p12 := eq_true p12; replace q12 := eq_true q12) | (go_at_call 36; (with_reducible refine (carouselref02_digit.calls k1 (bt a0 (ji9)) t136 _ A13.out).mono ?_); rintro e w' ⟨rfl, ⟨nd, rfl⟩⟩; (try first | exact ⟨rfl, _, World.drewN_drewN _ _ _⟩ | exact ⟨rfl, _, Eq.trans (World.drewN_drewN _ _ _) (congrArg (World.drewN _) (Nat.add_assoc _ _ _))⟩))); go_upto_region 8 with (first | (go_at_call 36; (with_reducible refine (carouselref02_digit.calls k1 (bt a0 (ji4)) t135 _ A8.out).mono ?_); rintro e w' ⟨rfl, ⟨nd, rfl⟩⟩; (try first | exact ⟨rfl, _, World.drewN_drewN _ _ _⟩ | exact ⟨rfl, _, Eq.trans (World.drewN_drewN _ _ _) (congrArg (World.drewN _) (Nat.add_assoc _ _ _))⟩); have p12 : 0 ≤ ((ji9) : Int) := of_decide_eq_true (by first | (with_reducible assumption) | assumption); have q12 : (ji9) < (a0.size : Int) := of_decide_eq_true (by first | (with_reducible assumption) | assumption); have hx12 := bt_at a0 (ji9); replace p12 := eq_true p12; replace q12 := eq_true q12) | (go_at_call 36; (with_reducible refine (carouselref02_digit.calls k1 (bt a0 (ji9)) t136 _ A13.out).mono ?_); rintro e w' ⟨rfl, ⟨nd, rfl⟩⟩; (try first | exact ⟨rfl, _, World.drewN_drewN _ _ _⟩ | exact ⟨rfl, _, Eq.trans (World.drewN_drewN _ _ _) (congrArg (World.drewN _) (Nat.add_assoc _ _ _))⟩))))
                  (try simp only [Act.put, List.setIfInBounds_toArray, List.set_cons_zero, List.set_cons_succ])
                  go_cut [43] (fun v43 wc => ∃ (kq : Nat) (x43_13 : Bool), v43 = .bool x43_13 ∧ Aside0 (carouselref02_Parse.j1 kq a0 x4_1 x5_1 t135 t136 x43_13 = some (r1, r2)) ∧ Aside0 (kq ≤ k1) ∧ Drawn0 w wc)
                  case first =>
                    have H := HC14.out
                    clear HC14
                    by_cases c15 : t135 < 0
                    · rw [if_pos c15] at H
                      have c15b0 : decide (t135 < 0) = true := decide_eq_true c15
                      clear c15
                      (first | rw [c15b0] | (simp only [i64_w, i32_w]; rw [c15b0]) | skip)
                      have H' := Aside0.mk H
                      clear H
                      go_wp2
                      repeat (go_quiet (fail); try go_wp2)
                      go_meet
                      case rel => exact ⟨_, (true), (by first | rfl | (simp; done) | (simp [*]; done)), H', ⟨by have := HK1.out; first | omega | exact Nat.le_refl _⟩, by repeat (first | exact Drawn0.refl _ | apply Drawn0.step)⟩
                    · rw [if_neg c15] at H
                      have c15b0 : decide (t135 < 0) = false := decide_eq_false c15
                      clear c15
                      (first | rw [c15b0] | (simp only [i64_w, i32_w]; rw [c15b0]) | skip)
                      by_cases c16 : t136 < 0
                      · rw [if_pos c16] at H
                        have c16b0 : decide (t136 < 0) = true := decide_eq_true c16
                        clear c16
                        have H' := Aside0.mk H
                        clear H
                        go_wp2
                        repeat (go_quiet (fail); try go_wp2)
                        go_meet
                        case rel => exact ⟨_, (true), (by first | rfl | (simp; done) | (simp [*]; done)), H', ⟨by have := HK1.out; first | omega | exact Nat.le_refl _⟩, by repeat (first | exact Drawn0.refl _ | apply Drawn0.step)⟩
                      · rw [if_neg c16] at H
                        have c16b0 : decide (t136 < 0) = false := decide_eq_false c16
                        clear c16
                        by_cases c17 : x5_1 < 5
                        · rw [if_pos c17] at H
                          have c17b0 : decide (x5_1 < 5) = true := decide_eq_true c17
                          clear c17
                          obtain ⟨ji18, hji18⟩ : ∃ j_ : Int, (wrap64 ((ji4) + 2)) = j_ := ⟨_, rfl⟩
                          replace H : (if 0 ≤ (ji18) then (if (ji18) < (a0.size : Int) then (carouselref02_Parse.j1 k1 a0 x4_1 x5_1 t135 t136 ((bt a0 (ji18)) != 58)) else (none)) else (none)) = some (r1, r2) := by first | (rw [hji18] at H; exact H) | (simp only [hji18] at H ⊢; exact H)
                          have hji18w : (IntKind.i64.wrap ((ji4) + 2)) = ji18 := (i64_w _).trans hji18
                          by_cases c19 : 0 ≤ (ji18)
                          · rw [if_pos c19] at H
                            have c19b0 : decide (0 ≤ (ji18)) = true := decide_eq_true c19
                            clear c19
                            by_cases c20 : (ji18) < (a0.size : Int)
                            · rw [if_pos c20] at H
                              have c20b0 : decide ((ji18) < (a0.size : Int)) = true := decide_eq_true c20
                              clear c20
                              have H' := Aside0.mk H
                              clear H
                              have p21 : 0 ≤ ((ji18) : Int) := of_decide_eq_true (by first | (with_reducible assumption) | assumption)
                              have q21 : (ji18) < (a0.size : Int) := of_decide_eq_true (by first | (with_reducible assumption) | assumption)
                              have hx21 := bt_at a0 (ji18)
                              replace p21 := eq_true p21
                              replace q21 := eq_true q21
                              go_wp2
                              repeat (go_quiet (fail); try go_wp2)
                              go_meet
                              case rel => exact ⟨_, (((bt a0 (ji18)) != 58)), (by first | rfl | (simp; done) | (simp only [← hji18] <;> (first | rfl | simp)) | (simp [*]; done)), H', ⟨by have := HK1.out; first | omega | exact Nat.le_refl _⟩, by repeat (first | exact Drawn0.refl _ | apply Drawn0.step)⟩
                            · rw [if_neg c20] at H
                              exact absurd H (by simp)
                          · rw [if_neg c19] at H
                            exact absurd H (by simp)
                        · rw [if_neg c17] at H
                          have c17b0 : decide (x5_1 < 5) = false := decide_eq_false c17
                          clear c17
                          have H' := Aside0.mk H
                          clear H
                          go_wp2
                          repeat (go_quiet (fail); try go_wp2)
                          go_meet
                          case rel => exact ⟨_, (false), (by first | rfl | (simp; done) | (simp [*]; done)), H', ⟨by have := HK1.out; first | omega | exact Nat.le_refl _⟩, by repeat (first | exact Drawn0.refl _ | apply Drawn0.step)⟩
                  case rest =>
                    clear HC14
                    try clear c1
                    try clear p1
                    try clear q1
                    try clear hx1
                    try clear c2
                    try clear c2b0
                    try clear c2b1
                    try clear p2
                    try clear q2
                    try clear hx2
                    try clear c3
                    try clear c3b0
                    try clear c5
                    try clear c5b0
                    try clear c6
                    try clear c6b0
                    try clear p6
                    try clear p7
                    try clear q7
                    try clear hx7
                    try clear c10
                    try clear c10b0
                    try clear c11
                    try clear c11b0
                    try clear c12
                    try clear p12
                    try clear q12
                    try clear hx12
                    try clear c15
                    try clear c15b0
                    try clear c16
                    try clear c16b0
                    try clear c17
                    try clear c17b0
                    try clear c19
                    try clear c19b0
                    try clear c20
                    try clear c20b0
                    try clear p21
                    try clear q21
                    try clear hx21
                    try clear p12
                    try clear p2
                    try clear p21
                    try clear p7
                    try clear q12
                    try clear q21
                    try clear q7
                    obtain ⟨kq, x43_13, rfl, HA, HJ13, ⟨mc13, rfl⟩⟩ := hcut
                    cases kq with
                    | zero => exact absurd HA.out (by simp [carouselref02_Parse.j1])
                    | succ kj13 =>
                      have H := HA.out
                      clear HA
                      simp only [carouselref02_Parse.j1] at H
                      by_cases c22 : x43_13 = true
                      · subst c22
                        have H1 : (some (0, 3)) = some (r1, r2) := by rw [if_pos rfl] at H; exact H
                        clear H
                        have H := H1
                        clear H1
                        simp only [Option.some.injEq, Prod.mk.injEq] at H
                        obtain ⟨rfl, rfl⟩ := H
                        go_wp2
                        repeat (go_quiet (fail); try go_wp2)
                        go_ret2
                        exact ⟨by first | rfl | (simp; done) | (simp only [← hji4, ← hji9] <;> (first | rfl | simp)) | (simp [*]; done), by repeat (first | exact Drawn0.refl _ | apply Drawn0.step)⟩
                      · replace c22 := Bool.eq_false_iff.mpr c22
                        subst c22
                        have H1 : (carouselref02_Parse.l0 kj13 a0 (IntKind.u64.wrap ((IntKind.u64.wrap (x4_1 * 256)) + (IntKind.u64.wrap (wrap64 ((wrap64 (t135 * 16)) + t136))))) (wrap64 (x5_1 + 1))) = some (r1, r2) := by rw [if_neg (show ¬ (false = true) by decide)] at H; exact H
                        clear H
                        have H := H1
                        clear H1
                        have H' := Aside0.mk H
                        clear H
                        go_wp2
                        repeat (go_quiet (fail); try go_wp2)
                        go_roundg kj13
                        case measure => have := HK1.out; have := HJ13.out; omega
                        case rel => exact ⟨(IntKind.u64.wrap ((IntKind.u64.wrap (x4_1 * 256)) + (IntKind.u64.wrap (wrap64 ((wrap64 (t135 * 16)) + t136))))), (wrap64 (x5_1 + 1)), (by first | rfl | (simp; done) | (simp [*]; done)), (by first | rfl | (simp; done) | (simp [*]; done)), H', ⟨by have := HK1.out; have := HJ13.out; omega⟩, by repeat (first | exact Drawn0.refl _ | apply Drawn0.step)⟩
                · rw [if_neg c11] at H
                  exact absurd H (by simp)
              · rw [if_neg c10] at H
                exact absurd H (by simp)
            · rw [if_neg c6] at H
              exact absurd H (by simp)
          · rw [if_neg c5] at H
            exact absurd H (by simp)
        · rw [if_neg c3] at H
          have c3b0 : decide (x5_1 < 6) = false := decide_eq_false c3
          clear c3
          simp only [Option.some.injEq, Prod.mk.injEq] at H
          obtain ⟨rfl, rfl⟩ := H
          go_wp2
          repeat (go_quiet (fail); try go_wp2)
          go_ret2
          exact ⟨by first | rfl | (simp; done) | (simp [*]; done), by repeat (first | exact Drawn0.refl _ | apply Drawn0.step)⟩
  · rw [if_neg c2] at H
    have c2b0 : ((a0.size : Int) == 17) = false := beq_eq_false_iff_ne.mpr c2
    have c2b1 : ((a0.size : Int) != 17) = true := bne_iff_ne.mpr c2
    simp only [Option.some.injEq, Prod.mk.injEq] at H
    obtain ⟨rfl, rfl⟩ := H
    go_enter Try.func12, Try.ntmps12
    go_wp2
    repeat (go_quiet (fail); try go_wp2)
    go_ret2
    exact ⟨by first | rfl | (simp; done) | (simp [*]; done), by repeat (first | exact Drawn0.refl _ | apply Drawn0.step)⟩

end Go.Proofs.Ytmdaaphjndjakad.PAll
