-- Written by a program of this work, after the translation.
import Derived.Test.YtkjjdphlfbecdaaPAllx0
import Derived.Test.YtkjjdphlfbecdaaPAllx2
import Derived.Test.YtkjjdphlfbecdaaPAllx4
import Derived.Test.YtkjjdphlfbecdaaPAllx5
import Derived.Test.YtkjjdphlfbecdaaPAllx6
namespace Go.Proofs.Ytkjjdphlfbecdaa.PAll
open Go.RowKit Go.Proofs.YtkjjdphlfbecdaaW.PrintWords Go.Proofs.YtkjjdphlfbecdaaW.PrintLast Go.Proofs.YtkjjdphlfbecdaaW.PrintMore
attribute [local go_sem] max2_int min2_int max_two min_two max_three min_three max_four min_four   -- for this text's walks alone
set_option linter.unusedVariables false
set_option linter.unusedSimpArgs false

attribute [local go_sem high] eqA30
/-! ### carousellaw22_EventOpens: function 4 -/
mutual
def carousellaw22_EventOpens.j0 : Nat → List (S28) → List (S30) → Bool → Option (Bool)
  | 0, _, _, _ => none
  | k + 1, x3, x5, x31 => if x31 = true then (some false) else (carousellaw22_EventOpens.l0 k x3 x5 (x3.length : Int) 0)
def carousellaw22_EventOpens.l0 : Nat → List (S28) → List (S30) → Int → Int → Option (Bool)
  | 0, _, _, _, _ => none
  | k + 1, x3, x5, x33, x34 => if x34 < x33 then (if 0 ≤ x34 then (if x34 < (x3.length : Int) then ((carousellaw22_Of.f ((rd_T28 x3 x34).f0) ((rd_T28 x3 x34).f1) ((rd_T28 x3 x34).f2) ((rd_T28 x3 x34).f3) ((rd_T28 x3 x34).f4)).bind fun bt155 => (if x34 < (x5.length : Int) then (if (!(bt155.1 == ((rd_T30 x5 x34).f0)) || (!(bt155.2.1 == ((rd_T30 x5 x34).f1)) || (!(bt155.2.2.1 == ((rd_T30 x5 x34).f2)) || (!(bt155.2.2.2.1 == ((rd_T30 x5 x34).f3)) || (!(bt155.2.2.2.2.toList == (((rd_T30 x5 x34).f4).toList))))))) = true then (some false) else (carousellaw22_EventOpens.l0 k x3 x5 x33 (wrap64 (x34 + 1)))) else (none))) else (none)) else (none)) else ((carousellaw22_Awake.f).bind fun t153 => (some t153))
end
def carousellaw22_EventOpens.f (k : Nat) (a0 : ByteArray) : Option (Bool) := if (a0.size : Int) > 8000 then ((carousellaw22_Awake.f).bind fun t144 => (some t144)) else ((event_Open.f a0).bind fun bt145 => ((carouselref22_Open.f k a0).bind fun bt149 => (if bt145.2 = bt149.2 then (carousellaw22_EventOpens.j0 k bt145.1 bt149.1 ((bt145.1.length : Int) != (bt149.1.length : Int))) else (carousellaw22_EventOpens.j0 k bt145.1 bt149.1 true))))
theorem carousellaw22_EventOpens.mono_l : ∀ k, (∀ y0 y1 y2, LeO (carousellaw22_EventOpens.j0 k y0 y1 y2) (carousellaw22_EventOpens.j0 (k + 1) y0 y1 y2)) ∧ (∀ y0 y1 y2 y3, LeO (carousellaw22_EventOpens.l0 k y0 y1 y2 y3) (carousellaw22_EventOpens.l0 (k + 1) y0 y1 y2 y3))
  | 0 => ⟨fun _ _ _ r h => by simp [carousellaw22_EventOpens.j0] at h, fun _ _ _ _ r h => by simp [carousellaw22_EventOpens.l0] at h⟩
  | k + 1 => by
    obtain ⟨ih0, ih1⟩ := carousellaw22_EventOpens.mono_l k
    refine ⟨?_, ?_⟩
    · intro y0 y1 y2
      unfold carousellaw22_EventOpens.j0
      repeat' first
      | (with_reducible exact ih0 _ _ _)
      | (with_reducible exact ih1 _ _ _ _)
      | (with_reducible exact carouselref22_Open.mono _ _)
      | (with_reducible exact LeO.refl _)
      | (with_reducible exact LeO.none _)
      | (with_reducible refine LeO.ite ?_ ?_)
      | (with_reducible refine LeO.bind ?_ (fun _ => ?_))
      | exact ih0 _ _ _
      | exact ih1 _ _ _ _
      | exact carouselref22_Open.mono _ _
      | exact LeO.none _
      | refine LeO.ite ?_ ?_
      | refine LeO.bind ?_ (fun _ => ?_)
    · intro y0 y1 y2 y3
      unfold carousellaw22_EventOpens.l0
      repeat' first
      | (with_reducible exact ih0 _ _ _)
      | (with_reducible exact ih1 _ _ _ _)
      | (with_reducible exact carouselref22_Open.mono _ _)
      | (with_reducible exact LeO.refl _)
      | (with_reducible exact LeO.none _)
      | (with_reducible refine LeO.ite ?_ ?_)
      | (with_reducible refine LeO.bind ?_ (fun _ => ?_))
      | exact ih0 _ _ _
      | exact ih1 _ _ _ _
      | exact carouselref22_Open.mono _ _
      | exact LeO.none _
      | refine LeO.ite ?_ ?_
      | refine LeO.bind ?_ (fun _ => ?_)
theorem carousellaw22_EventOpens.mono : ∀ a0 k, LeO (carousellaw22_EventOpens.f k a0) (carousellaw22_EventOpens.f (k + 1) a0) := by
  intro a0 k
  obtain ⟨ih0, ih1⟩ := carousellaw22_EventOpens.mono_l k
  unfold carousellaw22_EventOpens.f
  repeat' first
      | (with_reducible exact ih0 _ _ _)
      | (with_reducible exact ih1 _ _ _ _)
      | (with_reducible exact carouselref22_Open.mono _ _)
      | (with_reducible exact LeO.refl _)
      | (with_reducible exact LeO.none _)
      | (with_reducible refine LeO.ite ?_ ?_)
      | (with_reducible refine LeO.bind ?_ (fun _ => ?_))
      | exact ih0 _ _ _
      | exact ih1 _ _ _ _
      | exact carouselref22_Open.mono _ _
      | exact LeO.none _
      | refine LeO.ite ?_ ?_
      | refine LeO.bind ?_ (fun _ => ?_)
def carousellaw22_EventOpens.T10 : Bool × List (List Nat × List Nat) := (true, [([], []), ([], []), ([0, 1], [0, 1]), ([2], [2]), ([3], [3]), ([], []), ([], []), ([5, 6], [5, 6]), ([7], [7]), ([4, 8], [4, 8])])
def carousellaw22_EventOpens.B10 : List Nat := [0, 0, 3, 7, 15, 0, 0, 96, 224, 511]
theorem carousellaw22_EventOpens.tab10 : rtab .any (opsOf Try.f4 10) = carousellaw22_EventOpens.T10 := by kernel_rfl
theorem carousellaw22_EventOpens.bits10 : waitsOk carousellaw22_EventOpens.T10.2 carousellaw22_EventOpens.B10 = true := by kernel_rfl
set_option maxHeartbeats 8000000 in
set_option maxRecDepth 100000 in
theorem carousellaw22_EventOpens.calls (k : Nat) (a0 : ByteArray) (r : Bool) (w : World) (h : carousellaw22_EventOpens.f k a0 = some r) (hT : r = true) :
    Calls Try.prog 4 #[.string a0] w fun e w' => e = .returned (.bool r) ∧ Below w.heap.size w w' := by
  have hu28 := Try.underlying28
  have hu30 := Try.underlying30
  have HB := Aside0.mk (Below.refl w.heap.size w)
  have H : (if (a0.size : Int) > 8000 then ((carousellaw22_Awake.f).bind fun t144 => (some t144)) else ((event_Open.f a0).bind fun bt145 => ((carouselref22_Open.f k a0).bind fun bt149 => (if bt145.2 = bt149.2 then (carousellaw22_EventOpens.j0 k bt145.1 bt149.1 ((bt145.1.length : Int) != (bt149.1.length : Int))) else (carousellaw22_EventOpens.j0 k bt145.1 bt149.1 true))))) = some r := h
  clear h
  by_cases c2 : (a0.size : Int) > 8000
  · rw [if_pos c2] at H
    have c2b0 : decide (8000 < (a0.size : Int)) = true := decide_eq_true c2
    have c2b1 : decide (8000 < a0.size) = true := decide_eq_true (by omega)
    clear c2
    replace H := Option.bind_eq_some_iff.mp H
    obtain ⟨t144, A30, H⟩ := H
    replace H : (some t144) = some r := H
    have A3 := Aside0.mk A30
    clear A30
    obtain rfl := Option.some.inj H
    go_enter Try.func4, Try.ntmps4
    go_wp2_with (first | ((with_reducible refine gate_callee (f := 8) rfl ?_); refine goesL_ (some 11) rfl rfl Try.func8 (by kernel_rfl) rfl #[] rfl (by (try simp only [List.map_toArray, List.map_cons, List.map_nil]); first | done | rfl | (simp only [List.length_drop, List.length_take]; rfl)) ?_; (with_reducible refine (carousellaw22_Awake.calls  t144 _ A3.out).mono ?_); rintro e w4 ⟨rfl, hb⟩; refine ⟨_, rfl, ?_⟩; have n0_ := Aside0.mk (below_step (by repeat (first | (with_reducible first | exact HB.out | apply below_alloc | apply pw_below_drewN | apply below_drew1) | exact HB.out)) hb); clear HB; have HB := n0_; clear n0_; (try clear hb); (try clear hb2); (try clear hk); (try clear hi)))
    go_ret
    exact ⟨by first | rfl | (simp [errW_none, errW_some] <;> rfl) | (simp [*, errW_none, errW_some] <;> rfl), by repeat (first | (with_reducible first | exact HB.out | apply below_alloc | apply pw_below_drewN | apply below_drew1) | exact HB.out)⟩
  · rw [if_neg c2] at H
    have c2b0 : decide (8000 < (a0.size : Int)) = false := decide_eq_false c2
    have c2b1 : decide (8000 < a0.size) = false := decide_eq_false (by omega)
    clear c2
    replace H := Option.bind_eq_some_iff.mp H
    obtain ⟨⟨t145, t146⟩, A50, H⟩ := H
    replace H : ((carouselref22_Open.f k a0).bind fun bt149 => (if t146 = bt149.2 then (carousellaw22_EventOpens.j0 k t145 bt149.1 ((t145.length : Int) != (bt149.1.length : Int))) else (carousellaw22_EventOpens.j0 k t145 bt149.1 true))) = some r := H
    have A5 := Aside0.mk A50
    clear A50
    replace H := Option.bind_eq_some_iff.mp H
    obtain ⟨⟨t149, t150⟩, A60, H⟩ := H
    replace H : (if t146 = t150 then (carousellaw22_EventOpens.j0 k t145 t149 ((t145.length : Int) != (t149.length : Int))) else (carousellaw22_EventOpens.j0 k t145 t149 true)) = some r := H
    have A6 := Aside0.mk A60
    clear A60
    have HC7 := Aside0.mk H
    clear H
    go_enter Try.func4, Try.ntmps4
    go_upto_region 5 with (first | ((with_reducible refine gate_callee (f := 14) rfl ?_); refine goesL_ (some 14) rfl rfl Try.func14 (by kernel_rfl) rfl #[.string a0] rfl (by (try simp only [List.map_toArray, List.map_cons, List.map_nil]); first | done | rfl | (simp only [List.length_drop, List.length_take]; rfl)) ?_; (with_reducible refine (event_Open.calls a0 t145 t146 _ A5.out).mono ?_); rintro e w8 ⟨v147, rfl, ho0, hb⟩; refine ⟨_, rfl, ?_⟩; have n0_ := Aside0.mk (Kd.R_lower ho0 (below_size (by repeat (first | (with_reducible first | exact HB.out | apply below_alloc | apply pw_below_drewN | apply below_drew1) | exact HB.out)))); have n1_ := Aside0.mk (below_step (by repeat (first | (with_reducible first | exact HB.out | apply below_alloc | apply pw_below_drewN | apply below_drew1) | exact HB.out)) hb); clear HB; have HO148 := n0_; have HB := n1_; clear n0_ n1_; (try clear hb); (try clear hb2); (try clear hk); (try clear hi); (try clear ho0)) | ((with_reducible refine gate_callee (f := 15) rfl ?_); refine goesL_ (some 19) rfl rfl Try.func15 (by kernel_rfl) rfl #[.string a0] rfl (by (try simp only [List.map_toArray, List.map_cons, List.map_nil]); first | done | rfl | (simp only [List.length_drop, List.length_take]; rfl)) ?_; (with_reducible refine (carouselref22_Open.calls k a0 t149 t150 _ A6.out).mono ?_); rintro e w9 ⟨v151, rfl, ho0, hb⟩; refine ⟨_, rfl, ?_⟩; have n0_ := Aside0.mk (Kd.R_below (by (with_reducible repeat (first | apply Kd.R_alloc | apply Kd.R_drewN | apply Kd.R_drew)); exact HO148.out) hb); have n1_ := Aside0.mk (Kd.R_lower ho0 (below_size (by repeat (first | (with_reducible first | exact HB.out | apply below_alloc | apply pw_below_drewN | apply below_drew1) | exact HB.out)))); have n2_ := Aside0.mk (below_step (by repeat (first | (with_reducible first | exact HB.out | apply below_alloc | apply pw_below_drewN | apply below_drew1) | exact HB.out)) hb); clear HO148; clear HB; have HO148 := n0_; have HO152 := n1_; have HB := n2_; clear n0_ n1_ n2_; (try clear hb); (try clear hb2); (try clear hk); (try clear hi); (try clear ho0)))
    (try simp only [Act.put, List.setIfInBounds_toArray, List.set_cons_zero, List.set_cons_succ])
    go_cut [31] (fun v31 wc => ∃ (kq : Nat) (x31_6 : Bool), v31 = .bool x31_6 ∧ Aside0 (carousellaw22_EventOpens.j0 kq t145 t149 x31_6 = some r) ∧ Aside0 (kq ≤ k) ∧ Aside0 (Kd.R k28 28 wc w.heap.size (fun _ => True) v147 t145) ∧ Aside0 (Kd.R k30 30 wc w.heap.size (fun _ => True) v151 t149) ∧ Aside0 (Below w.heap.size w wc))
    case first =>
      have H := HC7.out
      clear HC7
      by_cases c10 : t146 = t150
      · rw [if_pos c10] at H
        have c10b0 : (t146 == t150) = true := beq_iff_eq.mpr c10
        have c10b1 : (t146 != t150) = false := bne_eq_false_iff_eq.mpr c10
        clear c10
        (first | rw [c10b0] | (simp only [i64_w, i32_w]; rw [c10b0]) | skip)
        have H' := Aside0.mk H
        clear H
        obtain ⟨Ao11, co11, eo11⟩ := Kd.R_slice HO148.out
        subst eo11
        obtain ⟨Ao12, co12, eo12⟩ := Kd.R_slice HO152.out
        subst eo12
        go_wp2
        go_meet
        case rel => exact ⟨_, (((t145.length : Int) != (t149.length : Int))), (by first | rfl | (simp; done) | (simp [*]; done)), H', ⟨by first | omega | exact Nat.le_refl _⟩, ⟨by (with_reducible repeat (first | apply Kd.R_alloc | apply Kd.R_drewN | apply Kd.R_drew)); exact HO148.out⟩, ⟨by (with_reducible repeat (first | apply Kd.R_alloc | apply Kd.R_drewN | apply Kd.R_drew)); exact HO152.out⟩, ⟨by repeat (first | (with_reducible first | exact HB.out | apply below_alloc | apply pw_below_drewN | apply below_drew1) | exact HB.out)⟩⟩
      · rw [if_neg c10] at H
        have c10b0 : (t146 == t150) = false := beq_eq_false_iff_ne.mpr c10
        have c10b1 : (t146 != t150) = true := bne_iff_ne.mpr c10
        (first | rw [c10b0] | (simp only [i64_w, i32_w]; rw [c10b0]) | skip)
        have H' := Aside0.mk H
        clear H
        go_wp2
        go_meet
        case rel => exact ⟨_, (true), (by first | rfl | (simp; done) | (simp [*]; done)), H', ⟨by first | omega | exact Nat.le_refl _⟩, ⟨by (with_reducible repeat (first | apply Kd.R_alloc | apply Kd.R_drewN | apply Kd.R_drew)); exact HO148.out⟩, ⟨by (with_reducible repeat (first | apply Kd.R_alloc | apply Kd.R_drewN | apply Kd.R_drew)); exact HO152.out⟩, ⟨by repeat (first | (with_reducible first | exact HB.out | apply below_alloc | apply pw_below_drewN | apply below_drew1) | exact HB.out)⟩⟩
    case rest =>
      clear HC7
      try clear c1
      try clear c2
      try clear c2b0
      try clear c2b1
      try clear p2
      try clear c4
      try clear c8
      try clear c10
      try clear c10b0
      try clear c10b1
      obtain ⟨kq, x31_6, rfl, HA, HJ6, HO_3, HO_5, HB⟩ := hcut
      cases kq with
      | zero => exact absurd HA.out (by simp [carousellaw22_EventOpens.j0])
      | succ kj6 =>
        have H := HA.out
        clear HA
        simp only [carousellaw22_EventOpens.j0] at H
        by_cases c13 : x31_6 = true
        · subst c13
          have H1 : (some false) = some r := by rw [if_pos rfl] at H; exact H
          clear H
          have H := H1
          clear H1
          cases (Option.some.inj H).trans hT
        · replace c13 := Bool.eq_false_iff.mpr c13
          subst c13
          have H1 : (carousellaw22_EventOpens.l0 kj6 t145 t149 (t145.length : Int) 0) = some r := by rw [if_neg (show ¬ (false = true) by decide)] at H; exact H
          clear H
          have H := H1
          clear H1
          have H' := Aside0.mk H
          clear H
          obtain ⟨Ao14, co14, eo14⟩ := Kd.R_slice HO_3.out
          subst eo14
          go_wp2
          go_loopg [34] kj6 (fun kq v34 w' => ∃ (x34_2 : Int), v34 = .int .i64 x34_2 ∧ Aside0 (carousellaw22_EventOpens.l0 kq t145 t149 (t145.length : Int) x34_2 = some r) ∧ Aside0 (kq ≤ kj6) ∧ Aside0 (Kd.R k28 28 w' w.heap.size (fun _ => True) (.slice Ao14 t145.length co14) t145) ∧ Aside0 (Kd.R k30 30 w' w.heap.size (fun _ => True) v151 t149) ∧ Aside0 (Below w.heap.size w w'))
          case atStart => exact ⟨(0), (by first | rfl | (simp; done) | (simp [*]; done)), H', ⟨Nat.le_refl _⟩, ⟨by (with_reducible repeat (first | apply Kd.R_alloc | apply Kd.R_drewN | apply Kd.R_drew)); exact HO_3.out⟩, ⟨by (with_reducible repeat (first | apply Kd.R_alloc | apply Kd.R_drewN | apply Kd.R_drew)); exact HO_5.out⟩, ⟨by repeat (first | (with_reducible first | exact HB.out | apply below_alloc | apply pw_below_drewN | apply below_drew1) | exact HB.out)⟩⟩
          case round =>
            clear H'
            try clear c1
            try clear c2
            try clear c2b0
            try clear c2b1
            try clear p2
            try clear c4
            try clear c8
            try clear c10
            try clear c10b0
            try clear c10b1
            try clear c13
            try clear c14
            try clear p2
            obtain ⟨x34_2, rfl, HA, HK2, HO_3, HO_5, HB⟩ := hrel
            cases gk with
            | zero => exact absurd HA.out (by simp [carousellaw22_EventOpens.l0])
            | succ k2 =>
              have H := HA.out
              clear HA
              simp only [carousellaw22_EventOpens.l0] at H
              by_cases c15 : x34_2 < (t145.length : Int)
              · rw [if_pos c15] at H
                have c15b0 : decide (x34_2 < (t145.length : Int)) = true := decide_eq_true c15
                clear c15
                by_cases c16 : 0 ≤ x34_2
                · rw [if_pos c16] at H
                  have c16b0 : decide (0 ≤ x34_2) = true := decide_eq_true c16
                  clear c16
                  by_cases c17 : x34_2 < (t145.length : Int)
                  · rw [if_pos c17] at H
                    have c17b0 : decide (x34_2 < (t145.length : Int)) = true := decide_eq_true c17
                    clear c17
                    replace H := Option.bind_eq_some_iff.mp H
                    obtain ⟨⟨t155, t156, t157, t158, t159⟩, A180, H⟩ := H
                    replace H : (if x34_2 < (t149.length : Int) then (if (!(t155 == ((rd_T30 t149 x34_2).f0)) || (!(t156 == ((rd_T30 t149 x34_2).f1)) || (!(t157 == ((rd_T30 t149 x34_2).f2)) || (!(t158 == ((rd_T30 t149 x34_2).f3)) || (!(t159.toList == (((rd_T30 t149 x34_2).f4).toList))))))) = true then (some false) else (carousellaw22_EventOpens.l0 k2 t145 t149 (t145.length : Int) (wrap64 (x34_2 + 1)))) else (none)) = some r := H
                    have A18 := Aside0.mk A180
                    clear A180
                    by_cases c19 : x34_2 < (t149.length : Int)
                    · rw [if_pos c19] at H
                      have c19b0 : decide (x34_2 < (t149.length : Int)) = true := decide_eq_true c19
                      clear c19
                      by_cases c20 : (!(t155 == ((rd_T30 t149 x34_2).f0)) || (!(t156 == ((rd_T30 t149 x34_2).f1)) || (!(t157 == ((rd_T30 t149 x34_2).f2)) || (!(t158 == ((rd_T30 t149 x34_2).f3)) || (!(t159.toList == (((rd_T30 t149 x34_2).f4).toList))))))) = true
                      · rw [if_pos c20] at H
                        have c20b0 : (!(t155 == ((rd_T30 t149 x34_2).f0)) || (!(t156 == ((rd_T30 t149 x34_2).f1)) || (!(t157 == ((rd_T30 t149 x34_2).f2)) || (!(t158 == ((rd_T30 t149 x34_2).f3)) || (!(t159.toList == (((rd_T30 t149 x34_2).f4).toList))))))) = true := c20
                        clear c20
                        cases (Option.some.inj H).trans hT
                      · rw [if_neg c20] at H
                        have c20b0 : (!(t155 == ((rd_T30 t149 x34_2).f0)) || (!(t156 == ((rd_T30 t149 x34_2).f1)) || (!(t157 == ((rd_T30 t149 x34_2).f2)) || (!(t158 == ((rd_T30 t149 x34_2).f3)) || (!(t159.toList == (((rd_T30 t149 x34_2).f4).toList))))))) = false := by simpa using c20
                        clear c20
                        have H' := Aside0.mk H
                        clear H
                        try go_wp2
                        have n0_ := Aside0.mk (Kd.R_drew HO_3.out)
                        have n1_ := Aside0.mk (Kd.R_drew HO_5.out)
                        have n2_ := Aside0.mk (below_drew1 HB.out)
                        clear HO_3
                        clear HO_5
                        clear HB
                        have HO_3 := n0_
                        have HO_5 := n1_
                        have HB := n2_
                        clear n0_ n1_ n2_
                        have p154 : 0 ≤ (x34_2 : Int) := of_decide_eq_true (by first | (with_reducible assumption) | assumption)
                        have q154 : x34_2 < (t145.length : Int) := of_decide_eq_true (by first | (with_reducible assumption) | assumption)
                        obtain ⟨ad154, e154, hx154_0, hx154_1, hx154_2, hx154_3, hx154_4⟩ := at_T28 (Kd.R_reads' HO_3.out).2.2 x34_2 p154 q154
                        cases e154
                        replace p154 := eq_true p154
                        replace q154 := eq_true q154
                        obtain ⟨Ao22, co22, eo22⟩ := Kd.R_slice HO_5.out
                        (first | subst eo22 | (injection eo22 with f1_ f2_ f3_; have f4_ := f1_.symm; have f5_ := f3_.symm; clear f1_ f2_ f3_; subst f4_; subst f5_))
                        have p160 : 0 ≤ (x34_2 : Int) := of_decide_eq_true (by first | (with_reducible assumption) | assumption)
                        have q160 : x34_2 < (t149.length : Int) := of_decide_eq_true (by first | (with_reducible assumption) | assumption)
                        obtain ⟨ad160, e160, hx160_0, hx160_1, hx160_2, hx160_3, hx160_4⟩ := at_T30 (Kd.R_reads' HO_5.out).2.2 x34_2 p160 q160
                        cases e160
                        replace p160 := eq_true p160
                        replace q160 := eq_true q160
                        refine start_ (n := 10) (S := fun w' => w'.cell? (ad154.add ((x34_2).toNat * 5)) = some (.int .u8 ((rd_T28 t145 x34_2).f0)) ∧ w'.cell? ⟨(ad154.add ((x34_2).toNat * 5)).block, (ad154.add ((x34_2).toNat * 5)).off + 1, none⟩ = some (.int .u8 ((rd_T28 t145 x34_2).f1)) ∧ w'.cell? ⟨(ad154.add ((x34_2).toNat * 5)).block, (ad154.add ((x34_2).toNat * 5)).off + 2, none⟩ = some (.int .u8 ((rd_T28 t145 x34_2).f2)) ∧ w'.cell? ⟨(ad154.add ((x34_2).toNat * 5)).block, (ad154.add ((x34_2).toNat * 5)).off + 3, none⟩ = some (.int .u8 ((rd_T28 t145 x34_2).f3)) ∧ w'.cell? ⟨(ad154.add ((x34_2).toNat * 5)).block, (ad154.add ((x34_2).toNat * 5)).off + 4, none⟩ = some (.string ((rd_T28 t145 x34_2).f4)) ∧ w'.cell? (ad160.add ((x34_2).toNat * 5)) = some (.int .u8 ((rd_T30 t149 x34_2).f0)) ∧ w'.cell? ⟨(ad160.add ((x34_2).toNat * 5)).block, (ad160.add ((x34_2).toNat * 5)).off + 1, none⟩ = some (.int .u8 ((rd_T30 t149 x34_2).f1)) ∧ w'.cell? ⟨(ad160.add ((x34_2).toNat * 5)).block, (ad160.add ((x34_2).toNat * 5)).off + 2, none⟩ = some (.int .u8 ((rd_T30 t149 x34_2).f2)) ∧ w'.cell? ⟨(ad160.add ((x34_2).toNat * 5)).block, (ad160.add ((x34_2).toNat * 5)).off + 3, none⟩ = some (.int .u8 ((rd_T30 t149 x34_2).f3)) ∧ w'.cell? ⟨(ad160.add ((x34_2).toNat * 5)).block, (ad160.add ((x34_2).toNat * 5)).off + 4, none⟩ = some (.string ((rd_T30 t149 x34_2).f4))) (ds := []) #[false, false, false, false, false, false, false, false, false, false] (by kernel_rfl) rfl rfl ⟨hx154_0, hx154_1, hx154_2, hx154_3, hx154_4, hx160_0, hx160_1, hx160_2, hx160_3, hx160_4⟩ (fun hHeld => ?_); refine with_tabW carousellaw22_EventOpens.tab10 carousellaw22_EventOpens.bits10 (fun HT_ HW_ => ?_)
                        generalize wr.drew = w21 at HO_3 HO_5 HB hx154_0 hx154_1 hx154_2 hx154_3 hx154_4 hx160_0 hx160_1 hx160_2 hx160_3 hx160_4 hHeld ⊢
                        refine pure_ (i := 0) (N := some 37) (v := ?_) (a' := ?_) #[true, false, false, false, false, false, false, false, false, false] rfl rfl (any_of HT_.out (by kernel_rfl)) (fun _ _ _ h => h) (Or.inl ⟨by rfl, ?_⟩) ?_ ?_
                        rotate_left
                        · intro w'
                          go_simp
                          with_reducible rfl
                        rotate_left
                        · simp only [Act.put, List.setIfInBounds_toArray, List.set_cons_zero, List.set_cons_succ, i64_w, i32_w]
                          rfl
                        refine pure_ (i := 1) (N := some 38) (v := ?_) (a' := ?_) #[true, true, false, false, false, false, false, false, false, false] rfl rfl (any_of HT_.out (by kernel_rfl)) (fun _ _ _ h => h) (Or.inl ⟨by rfl, ?_⟩) ?_ ?_
                        rotate_left
                        · intro w'
                          go_simp
                          with_reducible rfl
                        rotate_left
                        · simp only [Act.put, List.setIfInBounds_toArray, List.set_cons_zero, List.set_cons_succ, i64_w, i32_w]
                          rfl
                        refine pure_ (i := 2) (N := some 39) (v := ?_) (a' := ?_) #[true, true, true, false, false, false, false, false, false, false] rfl rfl (any_of HT_.out (by kernel_rfl)) (fun _ _ _ h => h) (Or.inl ⟨by rfl, ?_⟩) ?_ ?_
                        rotate_left
                        · intro w'
                          go_simp
                          with_reducible rfl
                        rotate_left
                        · simp only [Act.put, List.setIfInBounds_toArray, List.set_cons_zero, List.set_cons_succ, i64_w, i32_w]
                          rfl
                        refine pure_ (i := 5) (N := some 42) (v := ?_) (a' := ?_) #[true, true, true, false, false, true, false, false, false, false] rfl rfl (any_of HT_.out (by kernel_rfl)) (fun _ _ _ h => h) (Or.inl ⟨by rfl, ?_⟩) ?_ ?_
                        rotate_left
                        · intro w'
                          go_simp
                          with_reducible rfl
                        rotate_left
                        · simp only [Act.put, List.setIfInBounds_toArray, List.set_cons_zero, List.set_cons_succ, i64_w, i32_w]
                          rfl
                        refine pure_ (i := 6) (N := some 43) (v := ?_) (a' := ?_) #[true, true, true, false, false, true, true, false, false, false] rfl rfl (any_of HT_.out (by kernel_rfl)) (fun _ _ _ h => h) (Or.inl ⟨by rfl, ?_⟩) ?_ ?_
                        rotate_left
                        · intro w'
                          go_simp
                          with_reducible rfl
                        rotate_left
                        · simp only [Act.put, List.setIfInBounds_toArray, List.set_cons_zero, List.set_cons_succ, i64_w, i32_w]
                          rfl
                        refine pure_ (i := 7) (N := some 44) (v := ?_) (a' := ?_) #[true, true, true, false, false, true, true, true, false, false] rfl rfl (any_of HT_.out (by kernel_rfl)) (fun _ _ _ h => h) (Or.inl ⟨by rfl, ?_⟩) ?_ ?_
                        rotate_left
                        · intro w'
                          go_simp
                          with_reducible rfl
                        rotate_left
                        · simp only [Act.put, List.setIfInBounds_toArray, List.set_cons_zero, List.set_cons_succ, i64_w, i32_w]
                          rfl
                        refine take_ (i := 3) (N := some 40) (v := ?_) (a' := ?_) #[true, true, true, true, false, true, true, true, false, false] rfl rfl (take_ofW HT_.out HW_.out (by kernel_rfl)) (fun _ _ _ h => h) (Or.inl ⟨by rfl, ?_⟩) hHeld ?_ ?_
                        rotate_left
                        · rintro w' ⟨s0, s1, s2, s3, s4, s5, s6, s7, s8, s9⟩
                          go_simp
                          with_reducible rfl
                        rotate_left
                        · simp only [Act.put, List.setIfInBounds_toArray, List.set_cons_zero, List.set_cons_succ, i64_w, i32_w]
                          rfl
                        refine take_ (i := 8) (N := some 45) (v := ?_) (a' := ?_) #[true, true, true, true, false, true, true, true, true, false] rfl rfl (take_ofW HT_.out HW_.out (by kernel_rfl)) (fun _ _ _ h => h) (Or.inl ⟨by rfl, ?_⟩) hHeld ?_ ?_
                        rotate_left
                        · rintro w' ⟨s0, s1, s2, s3, s4, s5, s6, s7, s8, s9⟩
                          go_simp
                          with_reducible rfl
                        rotate_left
                        · simp only [Act.put, List.setIfInBounds_toArray, List.set_cons_zero, List.set_cons_succ, i64_w, i32_w]
                          rfl
                        refine one_ (i := 4) (N := some 41) #[true, true, true, true, true, true, true, true, true, false] rfl rfl (one_of HT_.out (by kernel_rfl)) (by decide) (fun K hK => ?_)
                        refine goes_ Try.func9 (by kernel_rfl) rfl #[.agg #[.int .u8 ((rd_T28 t145 x34_2).f0), .int .u8 ((rd_T28 t145 x34_2).f1), .int .u8 ((rd_T28 t145 x34_2).f2), .int .u8 ((rd_T28 t145 x34_2).f3), .string ((rd_T28 t145 x34_2).f4)]] (by rfl) rfl rfl (by (try simp only [List.map_toArray, List.map_cons, List.map_nil]); first | done | rfl | (simp only [List.length_drop, List.length_take]; rfl)) ?_
                        with_reducible refine (carousellaw22_Of.calls ((rd_T28 t145 x34_2).f0) ((rd_T28 t145 x34_2).f1) ((rd_T28 t145 x34_2).f2) ((rd_T28 t145 x34_2).f3) ((rd_T28 t145 x34_2).f4) t155 t156 t157 t158 t159 _ A18.out).mono ?_
                        rintro e w23 ⟨rfl, hb⟩
                        have HS0_ := (hb.cell (World.block_lt_of_cell? _ _ (hHeld.1))).trans (hHeld.1)
                        have HS1_ := (hb.cell (World.block_lt_of_cell? _ _ (hHeld.2.1))).trans (hHeld.2.1)
                        have HS2_ := (hb.cell (World.block_lt_of_cell? _ _ (hHeld.2.2.1))).trans (hHeld.2.2.1)
                        have HS3_ := (hb.cell (World.block_lt_of_cell? _ _ (hHeld.2.2.2.1))).trans (hHeld.2.2.2.1)
                        have HS4_ := (hb.cell (World.block_lt_of_cell? _ _ (hHeld.2.2.2.2.1))).trans (hHeld.2.2.2.2.1)
                        have HS5_ := (hb.cell (World.block_lt_of_cell? _ _ (hHeld.2.2.2.2.2.1))).trans (hHeld.2.2.2.2.2.1)
                        have HS6_ := (hb.cell (World.block_lt_of_cell? _ _ (hHeld.2.2.2.2.2.2.1))).trans (hHeld.2.2.2.2.2.2.1)
                        have HS7_ := (hb.cell (World.block_lt_of_cell? _ _ (hHeld.2.2.2.2.2.2.2.1))).trans (hHeld.2.2.2.2.2.2.2.1)
                        have HS8_ := (hb.cell (World.block_lt_of_cell? _ _ (hHeld.2.2.2.2.2.2.2.2.1))).trans (hHeld.2.2.2.2.2.2.2.2.1)
                        have HS9_ := (hb.cell (World.block_lt_of_cell? _ _ (hHeld.2.2.2.2.2.2.2.2.2))).trans (hHeld.2.2.2.2.2.2.2.2.2)
                        refine ⟨_, rfl, ?_⟩
                        have n0_ := Aside0.mk (Kd.R_below (by (with_reducible repeat (first | apply Kd.R_alloc | apply Kd.R_drewN | apply Kd.R_drew)); exact HO_3.out) hb)
                        have n1_ := Aside0.mk (Kd.R_below (by (with_reducible repeat (first | apply Kd.R_alloc | apply Kd.R_drewN | apply Kd.R_drew)); exact HO_5.out) hb)
                        have n2_ := Aside0.mk (below_step (by repeat (first | (with_reducible first | exact HB.out | apply below_alloc | apply pw_below_drewN | apply below_drew1) | exact HB.out)) hb)
                        clear HO_3
                        clear HO_5
                        clear HB
                        have HO_3 := n0_
                        have HO_5 := n1_
                        have HB := n2_
                        clear n0_ n1_ n2_
                        (try clear hb)
                        (try clear hb2)
                        (try clear hk)
                        (try clear hi)
                        refine hK.out _ _ ⟨HS0_, HS1_, HS2_, HS3_, HS4_, HS5_, HS6_, HS7_, HS8_, HS9_⟩ (fun hHeld => ?_)
                        clear hK K
                        refine norm_ (a' := ?_) ?_ ?_
                        rotate_left
                        · show Act.put _ (some 41) _ = _
                          simp only [Act.put, List.setIfInBounds_toArray, List.set_cons_zero, List.set_cons_succ, i64_w, i32_w]
                          rfl
                        refine pure_ (i := 9) (N := some 46) (v := ?_) (a' := ?_) #[true, true, true, true, true, true, true, true, true, true] rfl rfl (any_of HT_.out (by kernel_rfl)) (fun _ _ _ h => h) (Or.inl ⟨by rfl, ?_⟩) ?_ ?_
                        rotate_left
                        · intro w'
                          go_simp
                          with_reducible rfl
                        rotate_left
                        · simp only [Act.put, List.setIfInBounds_toArray, List.set_cons_zero, List.set_cons_succ, i64_w, i32_w]
                          rfl
                        refine done_ (done_of HT_.out (by kernel_rfl)) ?_
                        try go_wp2
                        go_roundg k2
                        case measure => have := HJ6.out; have := HK2.out; omega
                        case rel => exact ⟨(wrap64 (x34_2 + 1)), (by first | rfl | (simp; done) | (simp [*]; done)), H', ⟨by have := HJ6.out; have := HK2.out; omega⟩, ⟨by (with_reducible repeat (first | apply Kd.R_alloc | apply Kd.R_drewN | apply Kd.R_drew)); exact HO_3.out⟩, ⟨by (with_reducible repeat (first | apply Kd.R_alloc | apply Kd.R_drewN | apply Kd.R_drew)); exact HO_5.out⟩, ⟨by repeat (first | (with_reducible first | exact HB.out | apply below_alloc | apply pw_below_drewN | apply below_drew1) | exact HB.out)⟩⟩
                    · rw [if_neg c19] at H
                      exact absurd H (by simp)
                  · rw [if_neg c17] at H
                    exact absurd H (by simp)
                · rw [if_neg c16] at H
                  exact absurd H (by simp)
              · rw [if_neg c15] at H
                have c15b0 : decide (x34_2 < (t145.length : Int)) = false := decide_eq_false c15
                clear c15
                replace H := Option.bind_eq_some_iff.mp H
                obtain ⟨t153, A240, H⟩ := H
                replace H : (some t153) = some r := H
                have A24 := Aside0.mk A240
                clear A240
                obtain rfl := Option.some.inj H
                go_wp2_with (first | ((with_reducible refine gate_callee (f := 8) rfl ?_); refine goesL_ (some 48) rfl rfl Try.func8 (by kernel_rfl) rfl #[] rfl (by (try simp only [List.map_toArray, List.map_cons, List.map_nil]); first | done | rfl | (simp only [List.length_drop, List.length_take]; rfl)) ?_; (with_reducible refine (carousellaw22_Awake.calls  t153 _ A24.out).mono ?_); rintro e w25 ⟨rfl, hb⟩; refine ⟨_, rfl, ?_⟩; have n0_ := Aside0.mk (Kd.R_below (by (with_reducible repeat (first | apply Kd.R_alloc | apply Kd.R_drewN | apply Kd.R_drew)); exact HO_3.out) hb); have n1_ := Aside0.mk (Kd.R_below (by (with_reducible repeat (first | apply Kd.R_alloc | apply Kd.R_drewN | apply Kd.R_drew)); exact HO_5.out) hb); have n2_ := Aside0.mk (below_step (by repeat (first | (with_reducible first | exact HB.out | apply below_alloc | apply pw_below_drewN | apply below_drew1) | exact HB.out)) hb); clear HO_3; clear HO_5; clear HB; have HO_3 := n0_; have HO_5 := n1_; have HB := n2_; clear n0_ n1_ n2_; (try clear hb); (try clear hb2); (try clear hk); (try clear hi)))
                go_ret
                exact ⟨by first | rfl | (simp [errW_none, errW_some] <;> rfl) | (simp [*, errW_none, errW_some] <;> rfl), by repeat (first | (with_reducible first | exact HB.out | apply below_alloc | apply pw_below_drewN | apply below_drew1) | exact HB.out)⟩

/-- THE ONE PURE STATEMENT of carousellaw22_EventOpens: yours. -/
def carousellaw22_EventOpens.Pure : Prop := ∀ (a0 : ByteArray), a0.size ≤ 140737488351232 → ∃ k, carousellaw22_EventOpens.f k a0 = some true
theorem carousellaw22_EventOpens.walk (P : carousellaw22_EventOpens.Pure) (a0 : ByteArray) (w : World) (w0_0 : a0.size ≤ 140737488351232) :
    Calls Try.prog 4 #[.string a0] w fun e w' => e = .returned (.bool true) ∧ Below w.heap.size w w' := by
  obtain ⟨k, h⟩ := P a0 w0_0
  refine (carousellaw22_EventOpens.calls k a0 true w h rfl).mono ?_
  rintro e w' ⟨rfl, hd⟩
  exact ⟨rfl, hd⟩

end Go.Proofs.Ytkjjdphlfbecdaa.PAll
