-- Written by a program of this work, after the translation.
import Derived.Test.YtmdaaphjndjakadPAllx0
import Derived.Test.YtmdaaphjndjakadPAllx1
import Derived.Test.YtmdaaphjndjakadPAllx2
import Derived.Test.YtmdaaphjndjakadPAllx5
import Derived.Test.YtmdaaphjndjakadPAllx6
import Derived.Test.YtmdaaphjndjakadPAllx9
namespace Go.Proofs.Ytmdaaphjndjakad.PAll
open Go.RowKit Go.Proofs.YtmdaaphjndjakadW.PrintWords Go.Proofs.YtmdaaphjndjakadW.PrintLast Go.Proofs.YtmdaaphjndjakadW.PrintMore
attribute [local go_sem] max2_int min2_int max_two min_two max_three min_three max_four min_four   -- for this text's walks alone
set_option linter.unusedVariables false
set_option linter.unusedSimpArgs false

/-! ### carousellaw02_MacReads: function 3 -/
mutual
def carousellaw02_MacReads.j0 : Nat → ByteArray → ByteArray → Bool → Option (Bool)
  | 0, _, _, _ => none
  | k + 1, x0, x1, x18 => if x18 = true then ((carousellaw02_Awake.f k).bind fun t166 => (some t166)) else ((mac_Of.f k x0).bind fun bt167 => ((mac_Parse.f k x1).bind fun bt169 => ((carouselref02_Parse.f k x1).bind fun bt171 => (if bt169.1 = bt171.1 then (carousellaw02_MacReads.j1 k x0 bt167.1 bt167.2 (bt169.2 != bt171.2)) else (carousellaw02_MacReads.j1 k x0 bt167.1 bt167.2 true)))))
def carousellaw02_MacReads.j1 : Nat → ByteArray → Int → Int → Bool → Option (Bool)
  | 0, _, _, _, _ => none
  | k + 1, x0, x5, x6, x42 => if x42 = true then (some false) else (if (x0.size : Int) < 6 then ((carousellaw02_Awake.f k).bind fun t173 => (if t173 = true then (if x6 = 1 then (some (x5 == 0)) else (some false)) else (some false))) else (if (x0.size : Int) > 6 then ((carousellaw02_Awake.f k).bind fun t174 => (if t174 = true then (if x6 = 2 then (some (x5 == 0)) else (some false)) else (some false))) else ((carousellaw02_Awake.f k).bind fun t175 => (if t175 = true then (if x6 = 0 then ((carouselref01_Get.f k x0 0 6).bind fun t176 => (some (x5 == t176))) else (some false)) else (some false)))))
end
def carousellaw02_MacReads.f (k : Nat) (a0 : ByteArray) (a1 : ByteArray) : Option (Bool) := if (a0.size : Int) > 100 then (carousellaw02_MacReads.j0 k a0 a1 true) else (carousellaw02_MacReads.j0 k a0 a1 (decide ((a1.size : Int) > 200)))
theorem carousellaw02_MacReads.mono_l : ∀ k, (∀ y0 y1 y2, LeO (carousellaw02_MacReads.j0 k y0 y1 y2) (carousellaw02_MacReads.j0 (k + 1) y0 y1 y2)) ∧ (∀ y0 y1 y2 y3, LeO (carousellaw02_MacReads.j1 k y0 y1 y2 y3) (carousellaw02_MacReads.j1 (k + 1) y0 y1 y2 y3))
  | 0 => ⟨fun _ _ _ r h => by simp [carousellaw02_MacReads.j0] at h, fun _ _ _ _ r h => by simp [carousellaw02_MacReads.j1] at h⟩
  | k + 1 => by
    obtain ⟨ih0, ih1⟩ := carousellaw02_MacReads.mono_l k
    refine ⟨?_, ?_⟩
    · intro y0 y1 y2
      unfold carousellaw02_MacReads.j0
      repeat' first
      | (with_reducible exact ih0 _ _ _)
      | (with_reducible exact ih1 _ _ _ _)
      | (with_reducible exact carousellaw02_Awake.mono _)
      | (with_reducible exact carouselref01_Get.mono _ _ _ _)
      | (with_reducible exact carouselref02_Parse.mono _ _)
      | (with_reducible exact mac_Of.mono _ _)
      | (with_reducible exact mac_Parse.mono _ _)
      | (with_reducible exact LeO.refl _)
      | (with_reducible exact LeO.none _)
      | (with_reducible refine LeO.ite ?_ ?_)
      | (with_reducible refine LeO.bind ?_ (fun _ => ?_))
      | exact ih0 _ _ _
      | exact ih1 _ _ _ _
      | exact carousellaw02_Awake.mono _
      | exact carouselref01_Get.mono _ _ _ _
      | exact carouselref02_Parse.mono _ _
      | exact mac_Of.mono _ _
      | exact mac_Parse.mono _ _
      | exact LeO.none _
      | refine LeO.ite ?_ ?_
      | refine LeO.bind ?_ (fun _ => ?_)
    · intro y0 y1 y2 y3
      unfold carousellaw02_MacReads.j1
      repeat' first
      | (with_reducible exact ih0 _ _ _)
      | (with_reducible exact ih1 _ _ _ _)
      | (with_reducible exact carousellaw02_Awake.mono _)
      | (with_reducible exact carouselref01_Get.mono _ _ _ _)
      | (with_reducible exact carouselref02_Parse.mono _ _)
      | (with_reducible exact mac_Of.mono _ _)
      | (with_reducible exact mac_Parse.mono _ _)
      | (with_reducible exact LeO.refl _)
      | (with_reducible exact LeO.none _)
      | (with_reducible refine LeO.ite ?_ ?_)
      | (with_reducible refine LeO.bind ?_ (fun _ => ?_))
      | exact ih0 _ _ _
      | exact ih1 _ _ _ _
      | exact carousellaw02_Awake.mono _
      | exact carouselref01_Get.mono _ _ _ _
      | exact carouselref02_Parse.mono _ _
      | exact mac_Of.mono _ _
      | exact mac_Parse.mono _ _
      | exact LeO.none _
      | refine LeO.ite ?_ ?_
      | refine LeO.bind ?_ (fun _ => ?_)
theorem carousellaw02_MacReads.mono : ∀ a0 a1 k, LeO (carousellaw02_MacReads.f k a0 a1) (carousellaw02_MacReads.f (k + 1) a0 a1) := by
  intro a0 a1 k
  obtain ⟨ih0, ih1⟩ := carousellaw02_MacReads.mono_l k
  unfold carousellaw02_MacReads.f
  repeat' first
      | (with_reducible exact ih0 _ _ _)
      | (with_reducible exact ih1 _ _ _ _)
      | (with_reducible exact carousellaw02_Awake.mono _)
      | (with_reducible exact carouselref01_Get.mono _ _ _ _)
      | (with_reducible exact carouselref02_Parse.mono _ _)
      | (with_reducible exact mac_Of.mono _ _)
      | (with_reducible exact mac_Parse.mono _ _)
      | (with_reducible exact LeO.refl _)
      | (with_reducible exact LeO.none _)
      | (with_reducible refine LeO.ite ?_ ?_)
      | (with_reducible refine LeO.bind ?_ (fun _ => ?_))
      | exact ih0 _ _ _
      | exact ih1 _ _ _ _
      | exact carousellaw02_Awake.mono _
      | exact carouselref01_Get.mono _ _ _ _
      | exact carouselref02_Parse.mono _ _
      | exact mac_Of.mono _ _
      | exact mac_Parse.mono _ _
      | exact LeO.none _
      | refine LeO.ite ?_ ?_
      | refine LeO.bind ?_ (fun _ => ?_)
set_option maxHeartbeats 8000000 in
set_option maxRecDepth 100000 in
theorem carousellaw02_MacReads.calls (k : Nat) (a0 : ByteArray) (a1 : ByteArray) (r : Bool) (w : World) (h : carousellaw02_MacReads.f k a0 a1 = some r) :
    Calls Try.prog 3 #[.string a0, .string a1] w fun e w' => e = .returned (.bool r) ∧ Below w.heap.size w w' := by
  have HB := Aside0.mk (Below.refl w.heap.size w)
  have H : (if (a0.size : Int) > 100 then (carousellaw02_MacReads.j0 k a0 a1 true) else (carousellaw02_MacReads.j0 k a0 a1 (decide ((a1.size : Int) > 200)))) = some r := h
  clear h
  have HC3 := Aside0.mk H
  clear H
  go_enter Try.func3, Try.ntmps3
  go_upto_region 1 with (fail)
  go_cut [18] (fun v18 wc => ∃ (kq : Nat) (x18_2 : Bool), v18 = .bool x18_2 ∧ Aside0 (carousellaw02_MacReads.j0 kq a0 a1 x18_2 = some r) ∧ Aside0 (kq ≤ k) ∧ Aside0 (Below w.heap.size w wc))
  case first =>
    have H := HC3.out
    clear HC3
    by_cases c4 : (a0.size : Int) > 100
    · rw [if_pos c4] at H
      have c4b0 : decide (100 < (a0.size : Int)) = true := decide_eq_true c4
      have c4b1 : decide (100 < a0.size) = true := decide_eq_true (by omega)
      clear c4
      (first | rw [c4b0] | (simp only [i64_w, i32_w]; rw [c4b0]) | skip)
      have H' := Aside0.mk H
      clear H
      go_wp2
      go_meet
      case rel => exact ⟨_, (true), (by first | rfl | (simp; done) | (simp [*]; done)), H', ⟨by first | omega | exact Nat.le_refl _⟩, ⟨by repeat (first | (with_reducible first | exact HB.out | apply below_alloc | apply pw_below_drewN | apply below_drew1) | exact HB.out)⟩⟩
    · rw [if_neg c4] at H
      have c4b0 : decide (100 < (a0.size : Int)) = false := decide_eq_false c4
      have c4b1 : decide (100 < a0.size) = false := decide_eq_false (by omega)
      clear c4
      (first | rw [c4b0] | (simp only [i64_w, i32_w]; rw [c4b0]) | skip)
      have H' := Aside0.mk H
      clear H
      go_wp2
      go_meet
      case rel => exact ⟨_, (decide ((a1.size : Int) > 200)), (by first | rfl | (simp; done) | (simp [*]; done)), H', ⟨by first | omega | exact Nat.le_refl _⟩, ⟨by repeat (first | (with_reducible first | exact HB.out | apply below_alloc | apply pw_below_drewN | apply below_drew1) | exact HB.out)⟩⟩
  case rest =>
    clear HC3
    try clear p2
    try clear c3
    try clear c4
    try clear c4b0
    try clear c4b1
    obtain ⟨kq, x18_2, rfl, HA, HJ2, HB⟩ := hcut
    cases kq with
    | zero => exact absurd HA.out (by simp [carousellaw02_MacReads.j0])
    | succ kj2 =>
      have H := HA.out
      clear HA
      simp only [carousellaw02_MacReads.j0] at H
      by_cases c5 : x18_2 = true
      · subst c5
        have H1 : ((carousellaw02_Awake.f kj2).bind fun t166 => (some t166)) = some r := by rw [if_pos rfl] at H; exact H
        clear H
        have H := H1
        clear H1
        replace H := Option.bind_eq_some_iff.mp H
        obtain ⟨t166, A60, H⟩ := H
        replace H : (some t166) = some r := H
        have A6 := Aside0.mk A60
        clear A60
        obtain rfl := Option.some.inj H
        go_wp2_with (first | ((with_reducible refine gate_callee (f := 9) rfl ?_); refine goesL_ (some 19) rfl rfl Try.func9 (by kernel_rfl) rfl #[] rfl (by (try simp only [List.map_toArray, List.map_cons, List.map_nil]); first | done | rfl | (simp only [List.length_drop, List.length_take]; rfl)) ?_; (with_reducible refine (carousellaw02_Awake.calls kj2  t166 _ A6.out).mono ?_); rintro e w7 ⟨rfl, hb⟩; refine ⟨_, rfl, ?_⟩; have n0_ := Aside0.mk (below_step (by repeat (first | (with_reducible first | exact HB.out | apply below_alloc | apply pw_below_drewN | apply below_drew1) | exact HB.out)) hb); clear HB; have HB := n0_; clear n0_; (try clear hb); (try clear hb2); (try clear hk); (try clear hi)))
        go_ret
        exact ⟨by first | rfl | (simp [errW_none, errW_some] <;> rfl) | (simp [*, errW_none, errW_some] <;> rfl), by repeat (first | (with_reducible first | exact HB.out | apply below_alloc | apply pw_below_drewN | apply below_drew1) | exact HB.out)⟩
      · replace c5 := Bool.eq_false_iff.mpr c5
        subst c5
        have H1 : ((mac_Of.f kj2 a0).bind fun bt167 => ((mac_Parse.f kj2 a1).bind fun bt169 => ((carouselref02_Parse.f kj2 a1).bind fun bt171 => (if bt169.1 = bt171.1 then (carousellaw02_MacReads.j1 kj2 a0 bt167.1 bt167.2 (bt169.2 != bt171.2)) else (carousellaw02_MacReads.j1 kj2 a0 bt167.1 bt167.2 true))))) = some r := by rw [if_neg (show ¬ (false = true) by decide)] at H; exact H
        clear H
        have H := H1
        clear H1
        replace H := Option.bind_eq_some_iff.mp H
        obtain ⟨⟨t167, t168⟩, A80, H⟩ := H
        replace H : ((mac_Parse.f kj2 a1).bind fun bt169 => ((carouselref02_Parse.f kj2 a1).bind fun bt171 => (if bt169.1 = bt171.1 then (carousellaw02_MacReads.j1 kj2 a0 t167 t168 (bt169.2 != bt171.2)) else (carousellaw02_MacReads.j1 kj2 a0 t167 t168 true)))) = some r := H
        have A8 := Aside0.mk A80
        clear A80
        replace H := Option.bind_eq_some_iff.mp H
        obtain ⟨⟨t169, t170⟩, A90, H⟩ := H
        replace H : ((carouselref02_Parse.f kj2 a1).bind fun bt171 => (if t169 = bt171.1 then (carousellaw02_MacReads.j1 kj2 a0 t167 t168 (t170 != bt171.2)) else (carousellaw02_MacReads.j1 kj2 a0 t167 t168 true))) = some r := H
        have A9 := Aside0.mk A90
        clear A90
        replace H := Option.bind_eq_some_iff.mp H
        obtain ⟨⟨t171, t172⟩, A100, H⟩ := H
        replace H : (if t169 = t171 then (carousellaw02_MacReads.j1 kj2 a0 t167 t168 (t170 != t172)) else (carousellaw02_MacReads.j1 kj2 a0 t167 t168 true)) = some r := H
        have A10 := Aside0.mk A100
        clear A100
        have HC11 := Aside0.mk H
        clear H
        go_upto_region 6 with (first | ((with_reducible refine gate_callee (f := 10) rfl ?_); refine goesL_ (some 22) rfl rfl Try.func10 (by kernel_rfl) rfl #[.string a0] rfl (by (try simp only [List.map_toArray, List.map_cons, List.map_nil]); first | done | rfl | (simp only [List.length_drop, List.length_take]; rfl)) ?_; (with_reducible refine (mac_Of.calls kj2 a0 t167 t168 _ A8.out).mono ?_); rintro e w12 ⟨rfl, hb⟩; refine ⟨_, rfl, ?_⟩; have n0_ := Aside0.mk (below_step (by repeat (first | (with_reducible first | exact HB.out | apply below_alloc | apply pw_below_drewN | apply below_drew1) | exact HB.out)) hb); clear HB; have HB := n0_; clear n0_; (try clear hb); (try clear hb2); (try clear hk); (try clear hi)) | ((with_reducible refine gate_callee (f := 11) rfl ?_); refine goesL_ (some 27) rfl rfl Try.func11 (by kernel_rfl) rfl #[.string a1] rfl (by (try simp only [List.map_toArray, List.map_cons, List.map_nil]); first | done | rfl | (simp only [List.length_drop, List.length_take]; rfl)) ?_; (with_reducible refine (mac_Parse.calls kj2 a1 t169 t170 _ A9.out).mono ?_); rintro e w' ⟨rfl, ⟨nd, rfl⟩⟩; refine ⟨_, rfl, ?_⟩) | ((with_reducible refine gate_callee (f := 12) rfl ?_); refine goesL_ (some 32) rfl rfl Try.func12 (by kernel_rfl) rfl #[.string a1] rfl (by (try simp only [List.map_toArray, List.map_cons, List.map_nil]); first | done | rfl | (simp only [List.length_drop, List.length_take]; rfl)) ?_; (with_reducible refine (carouselref02_Parse.calls kj2 a1 t171 t172 _ A10.out).mono ?_); rintro e w' ⟨rfl, ⟨nd, rfl⟩⟩; refine ⟨_, rfl, ?_⟩))
        (try simp only [Act.put, List.setIfInBounds_toArray, List.set_cons_zero, List.set_cons_succ])
        go_cut [42] (fun v42 wc => ∃ (kq : Nat) (x42_10 : Bool), v42 = .bool x42_10 ∧ Aside0 (carousellaw02_MacReads.j1 kq a0 t167 t168 x42_10 = some r) ∧ Aside0 (kq ≤ kj2) ∧ Aside0 (Below w.heap.size w wc))
        case first =>
          have H := HC11.out
          clear HC11
          by_cases c13 : t169 = t171
          · rw [if_pos c13] at H
            have c13b0 : (t169 == t171) = true := beq_iff_eq.mpr c13
            have c13b1 : (t169 != t171) = false := bne_eq_false_iff_eq.mpr c13
            clear c13
            (first | rw [c13b0] | (simp only [i64_w, i32_w]; rw [c13b0]) | skip)
            have H' := Aside0.mk H
            clear H
            go_wp2
            go_meet
            case rel => exact ⟨_, ((t170 != t172)), (by first | rfl | (simp; done) | (simp [*]; done)), H', ⟨by have := HJ2.out; first | omega | exact Nat.le_refl _⟩, ⟨by repeat (first | (with_reducible first | exact HB.out | apply below_alloc | apply pw_below_drewN | apply below_drew1) | exact HB.out)⟩⟩
          · rw [if_neg c13] at H
            have c13b0 : (t169 == t171) = false := beq_eq_false_iff_ne.mpr c13
            have c13b1 : (t169 != t171) = true := bne_iff_ne.mpr c13
            (first | rw [c13b0] | (simp only [i64_w, i32_w]; rw [c13b0]) | skip)
            have H' := Aside0.mk H
            clear H
            go_wp2
            go_meet
            case rel => exact ⟨_, (true), (by first | rfl | (simp; done) | (simp [*]; done)), H', ⟨by have := HJ2.out; first | omega | exact Nat.le_refl _⟩, ⟨by repeat (first | (with_reducible first | exact HB.out | apply below_alloc | apply pw_below_drewN | apply below_drew1) | exact HB.out)⟩⟩
        case rest =>
          clear HC11
          try clear c1
          try clear p2
          try clear c3
          try clear c4
          try clear c4b0
          try clear c4b1
          try clear c5
          try clear c9
          try clear c10
          try clear c11
          try clear c12
          try clear c13
          try clear c13b0
          try clear c13b1
          try clear p2
          obtain ⟨kq, x42_10, rfl, HA, HJ10, HB⟩ := hcut
          cases kq with
          | zero => exact absurd HA.out (by simp [carousellaw02_MacReads.j1])
          | succ kj10 =>
            have H := HA.out
            clear HA
            simp only [carousellaw02_MacReads.j1] at H
            by_cases c14 : x42_10 = true
            · subst c14
              have H1 : (some false) = some r := by rw [if_pos rfl] at H; exact H
              clear H
              have H := H1
              clear H1
              obtain rfl := Option.some.inj H
              go_wp2
              go_ret
              exact ⟨by first | rfl | (simp [errW_none, errW_some] <;> rfl) | (simp [*, errW_none, errW_some] <;> rfl), by repeat (first | (with_reducible first | exact HB.out | apply below_alloc | apply pw_below_drewN | apply below_drew1) | exact HB.out)⟩
            · replace c14 := Bool.eq_false_iff.mpr c14
              subst c14
              have H1 : (if (a0.size : Int) < 6 then ((carousellaw02_Awake.f kj10).bind fun t173 => (if t173 = true then (if t168 = 1 then (some (t167 == 0)) else (some false)) else (some false))) else (if (a0.size : Int) > 6 then ((carousellaw02_Awake.f kj10).bind fun t174 => (if t174 = true then (if t168 = 2 then (some (t167 == 0)) else (some false)) else (some false))) else ((carousellaw02_Awake.f kj10).bind fun t175 => (if t175 = true then (if t168 = 0 then ((carouselref01_Get.f kj10 a0 0 6).bind fun t176 => (some (t167 == t176))) else (some false)) else (some false))))) = some r := by rw [if_neg (show ¬ (false = true) by decide)] at H; exact H
              clear H
              have H := H1
              clear H1
              by_cases c15 : (a0.size : Int) < 6
              · rw [if_pos c15] at H
                have c15b0 : decide ((a0.size : Int) < 6) = true := decide_eq_true c15
                have c15b1 : decide (a0.size < 6) = true := decide_eq_true (by omega)
                clear c15
                replace H := Option.bind_eq_some_iff.mp H
                obtain ⟨t173, A160, H⟩ := H
                replace H : (if t173 = true then (if t168 = 1 then (some (t167 == 0)) else (some false)) else (some false)) = some r := H
                have A16 := Aside0.mk A160
                clear A160
                by_cases c17 : t173 = true
                · subst c17
                  have H1 : (if t168 = 1 then (some (t167 == 0)) else (some false)) = some r := by rw [if_pos rfl] at H; exact H
                  clear H
                  have H := H1
                  clear H1
                  by_cases c18 : t168 = 1
                  · rw [if_pos c18] at H
                    have c18b0 : (t168 == 1) = true := beq_iff_eq.mpr c18
                    have c18b1 : (t168 != 1) = false := bne_eq_false_iff_eq.mpr c18
                    clear c18
                    obtain rfl := Option.some.inj H
                    go_wp2_with (first | ((with_reducible refine gate_callee (f := 9) rfl ?_); refine goesL_ (some 47) rfl rfl Try.func9 (by kernel_rfl) rfl #[] rfl (by (try simp only [List.map_toArray, List.map_cons, List.map_nil]); first | done | rfl | (simp only [List.length_drop, List.length_take]; rfl)) ?_; (with_reducible refine (carousellaw02_Awake.calls kj10  true _ A16.out).mono ?_); rintro e w19 ⟨rfl, hb⟩; refine ⟨_, rfl, ?_⟩; have n0_ := Aside0.mk (below_step (by repeat (first | (with_reducible first | exact HB.out | apply below_alloc | apply pw_below_drewN | apply below_drew1) | exact HB.out)) hb); clear HB; have HB := n0_; clear n0_; (try clear hb); (try clear hb2); (try clear hk); (try clear hi)))
                    go_ret
                    exact ⟨by first | rfl | (simp [errW_none, errW_some] <;> rfl) | (simp [*, errW_none, errW_some] <;> rfl), by repeat (first | (with_reducible first | exact HB.out | apply below_alloc | apply pw_below_drewN | apply below_drew1) | exact HB.out)⟩
                  · rw [if_neg c18] at H
                    have c18b0 : (t168 == 1) = false := beq_eq_false_iff_ne.mpr c18
                    have c18b1 : (t168 != 1) = true := bne_iff_ne.mpr c18
                    obtain rfl := Option.some.inj H
                    go_wp2_with (first | ((with_reducible refine gate_callee (f := 9) rfl ?_); refine goesL_ (some 47) rfl rfl Try.func9 (by kernel_rfl) rfl #[] rfl (by (try simp only [List.map_toArray, List.map_cons, List.map_nil]); first | done | rfl | (simp only [List.length_drop, List.length_take]; rfl)) ?_; (with_reducible refine (carousellaw02_Awake.calls kj10  true _ A16.out).mono ?_); rintro e w20 ⟨rfl, hb⟩; refine ⟨_, rfl, ?_⟩; have n0_ := Aside0.mk (below_step (by repeat (first | (with_reducible first | exact HB.out | apply below_alloc | apply pw_below_drewN | apply below_drew1) | exact HB.out)) hb); clear HB; have HB := n0_; clear n0_; (try clear hb); (try clear hb2); (try clear hk); (try clear hi)))
                    go_ret
                    exact ⟨by first | rfl | (simp [errW_none, errW_some] <;> rfl) | (simp [*, errW_none, errW_some] <;> rfl), by repeat (first | (with_reducible first | exact HB.out | apply below_alloc | apply pw_below_drewN | apply below_drew1) | exact HB.out)⟩
                · replace c17 := Bool.eq_false_iff.mpr c17
                  subst c17
                  have H1 : (some false) = some r := by rw [if_neg (show ¬ (false = true) by decide)] at H; exact H
                  clear H
                  have H := H1
                  clear H1
                  obtain rfl := Option.some.inj H
                  go_wp2_with (first | ((with_reducible refine gate_callee (f := 9) rfl ?_); refine goesL_ (some 47) rfl rfl Try.func9 (by kernel_rfl) rfl #[] rfl (by (try simp only [List.map_toArray, List.map_cons, List.map_nil]); first | done | rfl | (simp only [List.length_drop, List.length_take]; rfl)) ?_; (with_reducible refine (carousellaw02_Awake.calls kj10  false _ A16.out).mono ?_); rintro e w21 ⟨rfl, hb⟩; refine ⟨_, rfl, ?_⟩; have n0_ := Aside0.mk (below_step (by repeat (first | (with_reducible first | exact HB.out | apply below_alloc | apply pw_below_drewN | apply below_drew1) | exact HB.out)) hb); clear HB; have HB := n0_; clear n0_; (try clear hb); (try clear hb2); (try clear hk); (try clear hi)))
                  go_ret
                  exact ⟨by first | rfl | (simp [errW_none, errW_some] <;> rfl) | (simp [*, errW_none, errW_some] <;> rfl), by repeat (first | (with_reducible first | exact HB.out | apply below_alloc | apply pw_below_drewN | apply below_drew1) | exact HB.out)⟩
              · rw [if_neg c15] at H
                have c15b0 : decide ((a0.size : Int) < 6) = false := decide_eq_false c15
                have c15b1 : decide (a0.size < 6) = false := decide_eq_false (by omega)
                clear c15
                by_cases c22 : (a0.size : Int) > 6
                · rw [if_pos c22] at H
                  have c22b0 : decide (6 < (a0.size : Int)) = true := decide_eq_true c22
                  have c22b1 : decide (6 < a0.size) = true := decide_eq_true (by omega)
                  clear c22
                  replace H := Option.bind_eq_some_iff.mp H
                  obtain ⟨t174, A230, H⟩ := H
                  replace H : (if t174 = true then (if t168 = 2 then (some (t167 == 0)) else (some false)) else (some false)) = some r := H
                  have A23 := Aside0.mk A230
                  clear A230
                  by_cases c24 : t174 = true
                  · subst c24
                    have H1 : (if t168 = 2 then (some (t167 == 0)) else (some false)) = some r := by rw [if_pos rfl] at H; exact H
                    clear H
                    have H := H1
                    clear H1
                    by_cases c25 : t168 = 2
                    · rw [if_pos c25] at H
                      have c25b0 : (t168 == 2) = true := beq_iff_eq.mpr c25
                      have c25b1 : (t168 != 2) = false := bne_eq_false_iff_eq.mpr c25
                      clear c25
                      obtain rfl := Option.some.inj H
                      go_wp2_with (first | ((with_reducible refine gate_callee (f := 9) rfl ?_); refine goesL_ (some 60) rfl rfl Try.func9 (by kernel_rfl) rfl #[] rfl (by (try simp only [List.map_toArray, List.map_cons, List.map_nil]); first | done | rfl | (simp only [List.length_drop, List.length_take]; rfl)) ?_; (with_reducible refine (carousellaw02_Awake.calls kj10  true _ A23.out).mono ?_); rintro e w26 ⟨rfl, hb⟩; refine ⟨_, rfl, ?_⟩; have n0_ := Aside0.mk (below_step (by repeat (first | (with_reducible first | exact HB.out | apply below_alloc | apply pw_below_drewN | apply below_drew1) | exact HB.out)) hb); clear HB; have HB := n0_; clear n0_; (try clear hb); (try clear hb2); (try clear hk); (try clear hi)))
                      go_ret
                      exact ⟨by first | rfl | (simp [errW_none, errW_some] <;> rfl) | (simp [*, errW_none, errW_some] <;> rfl), by repeat (first | (with_reducible first | exact HB.out | apply below_alloc | apply pw_below_drewN | apply below_drew1) | exact HB.out)⟩
                    · rw [if_neg c25] at H
                      have c25b0 : (t168 == 2) = false := beq_eq_false_iff_ne.mpr c25
                      have c25b1 : (t168 != 2) = true := bne_iff_ne.mpr c25
                      obtain rfl := Option.some.inj H
                      go_wp2_with (first | ((with_reducible refine gate_callee (f := 9) rfl ?_); refine goesL_ (some 60) rfl rfl Try.func9 (by kernel_rfl) rfl #[] rfl (by (try simp only [List.map_toArray, List.map_cons, List.map_nil]); first | done | rfl | (simp only [List.length_drop, List.length_take]; rfl)) ?_; (with_reducible refine (carousellaw02_Awake.calls kj10  true _ A23.out).mono ?_); rintro e w27 ⟨rfl, hb⟩; refine ⟨_, rfl, ?_⟩; have n0_ := Aside0.mk (below_step (by repeat (first | (with_reducible first | exact HB.out | apply below_alloc | apply pw_below_drewN | apply below_drew1) | exact HB.out)) hb); clear HB; have HB := n0_; clear n0_; (try clear hb); (try clear hb2); (try clear hk); (try clear hi)))
                      go_ret
                      exact ⟨by first | rfl | (simp [errW_none, errW_some] <;> rfl) | (simp [*, errW_none, errW_some] <;> rfl), by repeat (first | (with_reducible first | exact HB.out | apply below_alloc | apply pw_below_drewN | apply below_drew1) | exact HB.out)⟩
                  · replace c24 := Bool.eq_false_iff.mpr c24
                    subst c24
                    have H1 : (some false) = some r := by rw [if_neg (show ¬ (false = true) by decide)] at H; exact H
                    clear H
                    have H := H1
                    clear H1
                    obtain rfl := Option.some.inj H
                    go_wp2_with (first | ((with_reducible refine gate_callee (f := 9) rfl ?_); refine goesL_ (some 60) rfl rfl Try.func9 (by kernel_rfl) rfl #[] rfl (by (try simp only [List.map_toArray, List.map_cons, List.map_nil]); first | done | rfl | (simp only [List.length_drop, List.length_take]; rfl)) ?_; (with_reducible refine (carousellaw02_Awake.calls kj10  false _ A23.out).mono ?_); rintro e w28 ⟨rfl, hb⟩; refine ⟨_, rfl, ?_⟩; have n0_ := Aside0.mk (below_step (by repeat (first | (with_reducible first | exact HB.out | apply below_alloc | apply pw_below_drewN | apply below_drew1) | exact HB.out)) hb); clear HB; have HB := n0_; clear n0_; (try clear hb); (try clear hb2); (try clear hk); (try clear hi)))
                    go_ret
                    exact ⟨by first | rfl | (simp [errW_none, errW_some] <;> rfl) | (simp [*, errW_none, errW_some] <;> rfl), by repeat (first | (with_reducible first | exact HB.out | apply below_alloc | apply pw_below_drewN | apply below_drew1) | exact HB.out)⟩
                · rw [if_neg c22] at H
                  have c22b0 : decide (6 < (a0.size : Int)) = false := decide_eq_false c22
                  have c22b1 : decide (6 < a0.size) = false := decide_eq_false (by omega)
                  clear c22
                  replace H := Option.bind_eq_some_iff.mp H
                  obtain ⟨t175, A290, H⟩ := H
                  replace H : (if t175 = true then (if t168 = 0 then ((carouselref01_Get.f kj10 a0 0 6).bind fun t176 => (some (t167 == t176))) else (some false)) else (some false)) = some r := H
                  have A29 := Aside0.mk A290
                  clear A290
                  by_cases c30 : t175 = true
                  · subst c30
                    have H1 : (if t168 = 0 then ((carouselref01_Get.f kj10 a0 0 6).bind fun t176 => (some (t167 == t176))) else (some false)) = some r := by rw [if_pos rfl] at H; exact H
                    clear H
                    have H := H1
                    clear H1
                    by_cases c31 : t168 = 0
                    · rw [if_pos c31] at H
                      have c31b0 : (t168 == 0) = true := beq_iff_eq.mpr c31
                      have c31b1 : (t168 != 0) = false := bne_eq_false_iff_eq.mpr c31
                      clear c31
                      replace H := Option.bind_eq_some_iff.mp H
                      obtain ⟨t176, A320, H⟩ := H
                      replace H : (some (t167 == t176)) = some r := H
                      have A32 := Aside0.mk A320
                      clear A320
                      obtain rfl := Option.some.inj H
                      go_wp2_with (first | ((with_reducible refine gate_callee (f := 9) rfl ?_); refine goesL_ (some 69) rfl rfl Try.func9 (by kernel_rfl) rfl #[] rfl (by (try simp only [List.map_toArray, List.map_cons, List.map_nil]); first | done | rfl | (simp only [List.length_drop, List.length_take]; rfl)) ?_; (with_reducible refine (carousellaw02_Awake.calls kj10  true _ A29.out).mono ?_); rintro e w33 ⟨rfl, hb⟩; refine ⟨_, rfl, ?_⟩; have n0_ := Aside0.mk (below_step (by repeat (first | (with_reducible first | exact HB.out | apply below_alloc | apply pw_below_drewN | apply below_drew1) | exact HB.out)) hb); clear HB; have HB := n0_; clear n0_; (try clear hb); (try clear hb2); (try clear hk); (try clear hi)) | (go_at_call 13; (with_reducible refine (carouselref01_Get.calls kj10 a0 0 6 t176 _ A32.out).mono ?_); rintro e w34 ⟨rfl, hb⟩; have n0_ := Aside0.mk (below_step (by repeat (first | (with_reducible first | exact HB.out | apply below_alloc | apply pw_below_drewN | apply below_drew1) | exact HB.out)) hb); clear HB; have HB := n0_; clear n0_; (try clear hb); (try clear hb2); (try clear hk); (try clear hi)))
                      go_ret
                      exact ⟨by first | rfl | (simp [errW_none, errW_some] <;> rfl) | (simp [*, errW_none, errW_some] <;> rfl), by repeat (first | (with_reducible first | exact HB.out | apply below_alloc | apply pw_below_drewN | apply below_drew1) | exact HB.out)⟩
                    · rw [if_neg c31] at H
                      have c31b0 : (t168 == 0) = false := beq_eq_false_iff_ne.mpr c31
                      have c31b1 : (t168 != 0) = true := bne_iff_ne.mpr c31
                      obtain rfl := Option.some.inj H
                      go_wp2_with (first | ((with_reducible refine gate_callee (f := 9) rfl ?_); refine goesL_ (some 69) rfl rfl Try.func9 (by kernel_rfl) rfl #[] rfl (by (try simp only [List.map_toArray, List.map_cons, List.map_nil]); first | done | rfl | (simp only [List.length_drop, List.length_take]; rfl)) ?_; (with_reducible refine (carousellaw02_Awake.calls kj10  true _ A29.out).mono ?_); rintro e w35 ⟨rfl, hb⟩; refine ⟨_, rfl, ?_⟩; have n0_ := Aside0.mk (below_step (by repeat (first | (with_reducible first | exact HB.out | apply below_alloc | apply pw_below_drewN | apply below_drew1) | exact HB.out)) hb); clear HB; have HB := n0_; clear n0_; (try clear hb); (try clear hb2); (try clear hk); (try clear hi)))
                      go_ret
                      exact ⟨by first | rfl | (simp [errW_none, errW_some] <;> rfl) | (simp [*, errW_none, errW_some] <;> rfl), by repeat (first | (with_reducible first | exact HB.out | apply below_alloc | apply pw_below_drewN | apply below_drew1) | exact HB.out)⟩
                  · replace c30 := Bool.eq_false_iff.mpr c30
                    subst c30
                    have H1 : (some false) = some r := by rw [if_neg (show ¬ (false = true) by decide)] at H; exact H
                    clear H
                    have H := H1
                    clear H1
                    obtain rfl := Option.some.inj H
                    go_wp2_with (first | ((with_reducible refine gate_callee (f := 9) rfl ?_); refine goesL_ (some 69) rfl rfl Try.func9 (by kernel_rfl) rfl #[] rfl (by (try simp only [List.map_toArray, List.map_cons, List.map_nil]); first | done | rfl | (simp only [List.length_drop, List.length_take]; rfl)) ?_; (with_reducible refine (carousellaw02_Awake.calls kj10  false _ A29.out).mono ?_); rintro e w36 ⟨rfl, hb⟩; refine ⟨_, rfl, ?_⟩; have n0_ := Aside0.mk (below_step (by repeat (first | (with_reducible first | exact HB.out | apply below_alloc | apply pw_below_drewN | apply below_drew1) | exact HB.out)) hb); clear HB; have HB := n0_; clear n0_; (try clear hb); (try clear hb2); (try clear hk); (try clear hi)))
                    go_ret
                    exact ⟨by first | rfl | (simp [errW_none, errW_some] <;> rfl) | (simp [*, errW_none, errW_some] <;> rfl), by repeat (first | (with_reducible first | exact HB.out | apply below_alloc | apply pw_below_drewN | apply below_drew1) | exact HB.out)⟩

/-- THE ONE PURE STATEMENT of carousellaw02_MacReads: yours. -/
def carousellaw02_MacReads.Pure : Prop := ∀ (a0 : ByteArray) (a1 : ByteArray), a0.size ≤ 140737488351232 → a1.size ≤ 140737488351232 → ∃ k, carousellaw02_MacReads.f k a0 a1 = some true
theorem carousellaw02_MacReads.walk (P : carousellaw02_MacReads.Pure) (a0 : ByteArray) (a1 : ByteArray) (w : World) (w0_0 : a0.size ≤ 140737488351232) (w1_0 : a1.size ≤ 140737488351232) :
    Calls Try.prog 3 #[.string a0, .string a1] w fun e w' => e = .returned (.bool true) ∧ Below w.heap.size w w' := by
  obtain ⟨k, h⟩ := P a0 a1 w0_0 w1_0
  refine (carousellaw02_MacReads.calls k a0 a1 true w h).mono ?_
  rintro e w' ⟨rfl, hd⟩
  exact ⟨rfl, hd⟩

end Go.Proofs.Ytmdaaphjndjakad.PAll
