-- Written by a program of this work, after the translation.
import Derived.Test.YtmdaaphjndjakaePReqKindsx0
import Derived.Test.YtmdaaphjndjakaePReqKindsx1
import Derived.Test.YtmdaaphjndjakaePReqKindsx2
import Derived.Test.YtmdaaphjndjakaePReqKindsx3
namespace Go.Proofs.Ytmdaaphjndjakae.PReqKinds
open Go.RowKit Go.Proofs.YtmdaaphjndjakaeW.PrintWords Go.Proofs.YtmdaaphjndjakaeW.PrintLast Go.Proofs.YtmdaaphjndjakaeW.PrintMore
attribute [local go_sem] max2_int min2_int max_two min_two max_three min_three max_four min_four   -- for this text's walks alone
set_option linter.unusedVariables false
set_option linter.unusedSimpArgs false

/-! ### carousellaw04_Awake: function 56 -/
def carousellaw04_Awake.f  : Option (Bool) := (oam_Close.f 7 1 40 0 0 (⟨#[]⟩ : ByteArray)).bind fun bt162 => ((carousellaw01_Awake.f).bind fun t164 => (if t164 = true then (if bt162.2 = 0 then (some (bt162.1.toList == ([225, 40, 0, 0, 0] : List UInt8))) else (some false)) else (some false)))
set_option maxHeartbeats 8000000 in
set_option maxRecDepth 100000 in
theorem carousellaw04_Awake.calls  (r : Bool) (w : World) (h : carousellaw04_Awake.f  = some r) :
    Calls Try.prog 56 #[] w fun e w' => e = .returned (.bool r) ∧ Below w.heap.size w w' := by
  have hu116 := Try.underlying116
  have HB := Aside0.mk (Below.refl w.heap.size w)
  have H : ((oam_Close.f 7 1 40 0 0 (⟨#[]⟩ : ByteArray)).bind fun bt162 => ((carousellaw01_Awake.f).bind fun t164 => (if t164 = true then (if bt162.2 = 0 then (some (bt162.1.toList == ([225, 40, 0, 0, 0] : List UInt8))) else (some false)) else (some false)))) = some r := h
  clear h
  replace H := Option.bind_eq_some_iff.mp H
  obtain ⟨⟨t162, t163⟩, A10, H⟩ := H
  replace H : ((carousellaw01_Awake.f).bind fun t164 => (if t164 = true then (if t163 = 0 then (some (t162.toList == ([225, 40, 0, 0, 0] : List UInt8))) else (some false)) else (some false))) = some r := H
  have A1 := Aside0.mk A10
  clear A10
  replace H := Option.bind_eq_some_iff.mp H
  obtain ⟨t164, A20, H⟩ := H
  replace H : (if t164 = true then (if t163 = 0 then (some (t162.toList == ([225, 40, 0, 0, 0] : List UInt8))) else (some false)) else (some false)) = some r := H
  have A2 := Aside0.mk A20
  clear A20
  by_cases c3 : t164 = true
  · subst c3
    have H1 : (if t163 = 0 then (some (t162.toList == ([225, 40, 0, 0, 0] : List UInt8))) else (some false)) = some r := by rw [if_pos rfl] at H; exact H
    clear H
    have H := H1
    clear H1
    by_cases c4 : t163 = 0
    · rw [if_pos c4] at H
      have c4b0 : (t163 == 0) = true := beq_iff_eq.mpr c4
      have c4b1 : (t163 != 0) = false := bne_eq_false_iff_eq.mpr c4
      clear c4
      obtain rfl := Option.some.inj H
      go_enter Try.func56, Try.ntmps56
      go_wp2_with (first | ((with_reducible refine gate_callee (f := 64) rfl ?_); refine goesL_ (some 5) rfl rfl Try.func64 (by kernel_rfl) rfl #[.agg #[.int .u8 7, .int .u8 1, .int .u8 40, .int .u8 0, .int .u8 0], .string (⟨#[]⟩ : ByteArray)] rfl (by (try simp only [List.map_toArray, List.map_cons, List.map_nil]); first | done | rfl | (simp only [List.length_drop, List.length_take]; rfl)) ?_; (with_reducible refine (oam_Close.calls 7 1 40 0 0 (⟨#[]⟩ : ByteArray) t162 t163 _ A1.out).mono ?_); rintro e w5 ⟨rfl, hb⟩; refine ⟨_, rfl, ?_⟩; have n0_ := Aside0.mk (below_step (by repeat (first | (with_reducible first | exact HB.out | apply below_alloc | apply pw_below_drewN | apply below_drew1) | exact HB.out)) hb); clear HB; have HB := n0_; clear n0_; (try clear hb); (try clear hb2); (try clear hk); (try clear hi)) | ((with_reducible refine gate_callee (f := 39) rfl ?_); refine goesL_ (some 8) rfl rfl Try.func39 (by kernel_rfl) rfl #[] rfl (by (try simp only [List.map_toArray, List.map_cons, List.map_nil]); first | done | rfl | (simp only [List.length_drop, List.length_take]; rfl)) ?_; (with_reducible refine (carousellaw01_Awake.calls  true _ A2.out).mono ?_); rintro e w6 ⟨rfl, hb⟩; refine ⟨_, rfl, ?_⟩; have n0_ := Aside0.mk (below_step (by repeat (first | (with_reducible first | exact HB.out | apply below_alloc | apply pw_below_drewN | apply below_drew1) | exact HB.out)) hb); clear HB; have HB := n0_; clear n0_; (try clear hb); (try clear hb2); (try clear hk); (try clear hi)))
      go_ret
      exact ⟨by first | rfl | (simp [errW_none, errW_some] <;> rfl) | (simp [*, errW_none, errW_some] <;> rfl), by repeat (first | (with_reducible first | exact HB.out | apply below_alloc | apply pw_below_drewN | apply below_drew1) | exact HB.out)⟩
    · rw [if_neg c4] at H
      have c4b0 : (t163 == 0) = false := beq_eq_false_iff_ne.mpr c4
      have c4b1 : (t163 != 0) = true := bne_iff_ne.mpr c4
      obtain rfl := Option.some.inj H
      go_enter Try.func56, Try.ntmps56
      go_wp2_with (first | ((with_reducible refine gate_callee (f := 64) rfl ?_); refine goesL_ (some 5) rfl rfl Try.func64 (by kernel_rfl) rfl #[.agg #[.int .u8 7, .int .u8 1, .int .u8 40, .int .u8 0, .int .u8 0], .string (⟨#[]⟩ : ByteArray)] rfl (by (try simp only [List.map_toArray, List.map_cons, List.map_nil]); first | done | rfl | (simp only [List.length_drop, List.length_take]; rfl)) ?_; (with_reducible refine (oam_Close.calls 7 1 40 0 0 (⟨#[]⟩ : ByteArray) t162 t163 _ A1.out).mono ?_); rintro e w7 ⟨rfl, hb⟩; refine ⟨_, rfl, ?_⟩; have n0_ := Aside0.mk (below_step (by repeat (first | (with_reducible first | exact HB.out | apply below_alloc | apply pw_below_drewN | apply below_drew1) | exact HB.out)) hb); clear HB; have HB := n0_; clear n0_; (try clear hb); (try clear hb2); (try clear hk); (try clear hi)) | ((with_reducible refine gate_callee (f := 39) rfl ?_); refine goesL_ (some 8) rfl rfl Try.func39 (by kernel_rfl) rfl #[] rfl (by (try simp only [List.map_toArray, List.map_cons, List.map_nil]); first | done | rfl | (simp only [List.length_drop, List.length_take]; rfl)) ?_; (with_reducible refine (carousellaw01_Awake.calls  true _ A2.out).mono ?_); rintro e w8 ⟨rfl, hb⟩; refine ⟨_, rfl, ?_⟩; have n0_ := Aside0.mk (below_step (by repeat (first | (with_reducible first | exact HB.out | apply below_alloc | apply pw_below_drewN | apply below_drew1) | exact HB.out)) hb); clear HB; have HB := n0_; clear n0_; (try clear hb); (try clear hb2); (try clear hk); (try clear hi)))
      go_ret
      exact ⟨by first | rfl | (simp [errW_none, errW_some] <;> rfl) | (simp [*, errW_none, errW_some] <;> rfl), by repeat (first | (with_reducible first | exact HB.out | apply below_alloc | apply pw_below_drewN | apply below_drew1) | exact HB.out)⟩
  · replace c3 := Bool.eq_false_iff.mpr c3
    subst c3
    have H1 : (some false) = some r := by rw [if_neg (show ¬ (false = true) by decide)] at H; exact H
    clear H
    have H := H1
    clear H1
    obtain rfl := Option.some.inj H
    go_enter Try.func56, Try.ntmps56
    go_wp2_with (first | ((with_reducible refine gate_callee (f := 64) rfl ?_); refine goesL_ (some 5) rfl rfl Try.func64 (by kernel_rfl) rfl #[.agg #[.int .u8 7, .int .u8 1, .int .u8 40, .int .u8 0, .int .u8 0], .string (⟨#[]⟩ : ByteArray)] rfl (by (try simp only [List.map_toArray, List.map_cons, List.map_nil]); first | done | rfl | (simp only [List.length_drop, List.length_take]; rfl)) ?_; (with_reducible refine (oam_Close.calls 7 1 40 0 0 (⟨#[]⟩ : ByteArray) t162 t163 _ A1.out).mono ?_); rintro e w9 ⟨rfl, hb⟩; refine ⟨_, rfl, ?_⟩; have n0_ := Aside0.mk (below_step (by repeat (first | (with_reducible first | exact HB.out | apply below_alloc | apply pw_below_drewN | apply below_drew1) | exact HB.out)) hb); clear HB; have HB := n0_; clear n0_; (try clear hb); (try clear hb2); (try clear hk); (try clear hi)) | ((with_reducible refine gate_callee (f := 39) rfl ?_); refine goesL_ (some 8) rfl rfl Try.func39 (by kernel_rfl) rfl #[] rfl (by (try simp only [List.map_toArray, List.map_cons, List.map_nil]); first | done | rfl | (simp only [List.length_drop, List.length_take]; rfl)) ?_; (with_reducible refine (carousellaw01_Awake.calls  false _ A2.out).mono ?_); rintro e w10 ⟨rfl, hb⟩; refine ⟨_, rfl, ?_⟩; have n0_ := Aside0.mk (below_step (by repeat (first | (with_reducible first | exact HB.out | apply below_alloc | apply pw_below_drewN | apply below_drew1) | exact HB.out)) hb); clear HB; have HB := n0_; clear n0_; (try clear hb); (try clear hb2); (try clear hk); (try clear hi)))
    go_ret
    exact ⟨by first | rfl | (simp [errW_none, errW_some] <;> rfl) | (simp [*, errW_none, errW_some] <;> rfl), by repeat (first | (with_reducible first | exact HB.out | apply below_alloc | apply pw_below_drewN | apply below_drew1) | exact HB.out)⟩

/-! ### carousellaw05_Awake: function 36 -/
def carousellaw05_Awake.f (k : Nat)  : Option (Bool) := (raps_Close.f k 0 true false false 2 7).bind fun bt165 => ((carousellaw02_Awake.f k).bind fun t167 => (if t167 = true then ((carousellaw04_Awake.f).bind fun t168 => (if t168 = true then (if bt165.2 = 0 then (if (bt165.1.size : Int) = 37 then (if 0 ≤ 12 then (if 12 ≤ (bt165.1.size : Int) then (some ((bt165.1.extract 0 12).toList == ([225, 40, 0, 32, 0, 128, 0, 0, 0, 0, 0, 2] : List UInt8))) else (none)) else (none)) else (some false)) else (some false)) else (some false))) else (some false)))
theorem carousellaw05_Awake.mono : ∀ k, LeO (carousellaw05_Awake.f k ) (carousellaw05_Awake.f (k + 1) ) := by
  intro  k
  unfold carousellaw05_Awake.f
  repeat' first
      | (with_reducible exact carousellaw02_Awake.mono _)
      | (with_reducible exact raps_Close.mono _ _ _ _ _ _ _)
      | (with_reducible exact LeO.refl _)
      | (with_reducible exact LeO.none _)
      | (with_reducible refine LeO.ite ?_ ?_)
      | (with_reducible refine LeO.bind ?_ (fun _ => ?_))
      | exact carousellaw02_Awake.mono _
      | exact raps_Close.mono _ _ _ _ _ _ _
      | exact LeO.none _
      | refine LeO.ite ?_ ?_
      | refine LeO.bind ?_ (fun _ => ?_)
set_option maxHeartbeats 8000000 in
set_option maxRecDepth 100000 in
theorem carousellaw05_Awake.calls (k : Nat)  (r : Bool) (w : World) (h : carousellaw05_Awake.f k  = some r) :
    Calls Try.prog 36 #[] w fun e w' => e = .returned (.bool r) ∧ Below w.heap.size w w' := by
  have hu103 := Try.underlying103
  have HB := Aside0.mk (Below.refl w.heap.size w)
  have H : ((raps_Close.f k 0 true false false 2 7).bind fun bt165 => ((carousellaw02_Awake.f k).bind fun t167 => (if t167 = true then ((carousellaw04_Awake.f).bind fun t168 => (if t168 = true then (if bt165.2 = 0 then (if (bt165.1.size : Int) = 37 then (if 0 ≤ 12 then (if 12 ≤ (bt165.1.size : Int) then (some ((bt165.1.extract 0 12).toList == ([225, 40, 0, 32, 0, 128, 0, 0, 0, 0, 0, 2] : List UInt8))) else (none)) else (none)) else (some false)) else (some false)) else (some false))) else (some false)))) = some r := h
  clear h
  replace H := Option.bind_eq_some_iff.mp H
  obtain ⟨⟨t165, t166⟩, A10, H⟩ := H
  replace H : ((carousellaw02_Awake.f k).bind fun t167 => (if t167 = true then ((carousellaw04_Awake.f).bind fun t168 => (if t168 = true then (if t166 = 0 then (if (t165.size : Int) = 37 then (if 0 ≤ 12 then (if 12 ≤ (t165.size : Int) then (some ((t165.extract 0 12).toList == ([225, 40, 0, 32, 0, 128, 0, 0, 0, 0, 0, 2] : List UInt8))) else (none)) else (none)) else (some false)) else (some false)) else (some false))) else (some false))) = some r := H
  have A1 := Aside0.mk A10
  clear A10
  replace H := Option.bind_eq_some_iff.mp H
  obtain ⟨t167, A20, H⟩ := H
  replace H : (if t167 = true then ((carousellaw04_Awake.f).bind fun t168 => (if t168 = true then (if t166 = 0 then (if (t165.size : Int) = 37 then (if 0 ≤ 12 then (if 12 ≤ (t165.size : Int) then (some ((t165.extract 0 12).toList == ([225, 40, 0, 32, 0, 128, 0, 0, 0, 0, 0, 2] : List UInt8))) else (none)) else (none)) else (some false)) else (some false)) else (some false))) else (some false)) = some r := H
  have A2 := Aside0.mk A20
  clear A20
  by_cases c3 : t167 = true
  · subst c3
    have H1 : ((carousellaw04_Awake.f).bind fun t168 => (if t168 = true then (if t166 = 0 then (if (t165.size : Int) = 37 then (if 0 ≤ 12 then (if 12 ≤ (t165.size : Int) then (some ((t165.extract 0 12).toList == ([225, 40, 0, 32, 0, 128, 0, 0, 0, 0, 0, 2] : List UInt8))) else (none)) else (none)) else (some false)) else (some false)) else (some false))) = some r := by rw [if_pos rfl] at H; exact H
    clear H
    have H := H1
    clear H1
    replace H := Option.bind_eq_some_iff.mp H
    obtain ⟨t168, A40, H⟩ := H
    replace H : (if t168 = true then (if t166 = 0 then (if (t165.size : Int) = 37 then (if 0 ≤ 12 then (if 12 ≤ (t165.size : Int) then (some ((t165.extract 0 12).toList == ([225, 40, 0, 32, 0, 128, 0, 0, 0, 0, 0, 2] : List UInt8))) else (none)) else (none)) else (some false)) else (some false)) else (some false)) = some r := H
    have A4 := Aside0.mk A40
    clear A40
    by_cases c5 : t168 = true
    · subst c5
      have H1 : (if t166 = 0 then (if (t165.size : Int) = 37 then (if 0 ≤ 12 then (if 12 ≤ (t165.size : Int) then (some ((t165.extract 0 12).toList == ([225, 40, 0, 32, 0, 128, 0, 0, 0, 0, 0, 2] : List UInt8))) else (none)) else (none)) else (some false)) else (some false)) = some r := by rw [if_pos rfl] at H; exact H
      clear H
      have H := H1
      clear H1
      by_cases c6 : t166 = 0
      · rw [if_pos c6] at H
        have c6b0 : (t166 == 0) = true := beq_iff_eq.mpr c6
        have c6b1 : (t166 != 0) = false := bne_eq_false_iff_eq.mpr c6
        clear c6
        by_cases c7 : (t165.size : Int) = 37
        · rw [if_pos c7] at H
          have c7b0 : ((t165.size : Int) == 37) = true := beq_iff_eq.mpr c7
          have c7b1 : ((t165.size : Int) != 37) = false := bne_eq_false_iff_eq.mpr c7
          clear c7
          by_cases c8 : 0 ≤ 12
          · rw [if_pos c8] at H
            have c8b0 := eq_true c8
            have c8b1 : decide (0 ≤ 12) = true := decide_eq_true c8
            clear c8
            by_cases c9 : 12 ≤ (t165.size : Int)
            · rw [if_pos c9] at H
              have c9b0 := eq_true c9
              have c9b1 : decide (12 ≤ (t165.size : Int)) = true := decide_eq_true c9
              clear c9
              obtain rfl := Option.some.inj H
              go_enter Try.func36, Try.ntmps36
              go_wp2_with (first | ((with_reducible refine gate_callee (f := 55) rfl ?_); refine goesL_ (some 5) rfl rfl Try.func55 (by kernel_rfl) rfl #[.agg #[.int .u8 0, .bool true, .bool false, .bool false, .int .u64 2], .int .u8 7] rfl (by (try simp only [List.map_toArray, List.map_cons, List.map_nil]); first | done | rfl | (simp only [List.length_drop, List.length_take]; rfl)) ?_; (with_reducible refine (raps_Close.calls k 0 true false false 2 7 t165 t166 _ A1.out).mono ?_); rintro e w10 ⟨rfl, hb⟩; refine ⟨_, rfl, ?_⟩; have n0_ := Aside0.mk (below_step (by repeat (first | (with_reducible first | exact HB.out | apply below_alloc | apply pw_below_drewN | apply below_drew1) | exact HB.out)) hb); clear HB; have HB := n0_; clear n0_; (try clear hb); (try clear hb2); (try clear hk); (try clear hi)) | ((with_reducible refine gate_callee (f := 29) rfl ?_); refine goesL_ (some 8) rfl rfl Try.func29 (by kernel_rfl) rfl #[] rfl (by (try simp only [List.map_toArray, List.map_cons, List.map_nil]); first | done | rfl | (simp only [List.length_drop, List.length_take]; rfl)) ?_; (with_reducible refine (carousellaw02_Awake.calls k  true _ A2.out).mono ?_); rintro e w11 ⟨rfl, hb⟩; refine ⟨_, rfl, ?_⟩; have n0_ := Aside0.mk (below_step (by repeat (first | (with_reducible first | exact HB.out | apply below_alloc | apply pw_below_drewN | apply below_drew1) | exact HB.out)) hb); clear HB; have HB := n0_; clear n0_; (try clear hb); (try clear hb2); (try clear hk); (try clear hi)) | (go_at_call 56; (with_reducible refine (carousellaw04_Awake.calls  true _ A4.out).mono ?_); rintro e w12 ⟨rfl, hb⟩; have n0_ := Aside0.mk (below_step (by repeat (first | (with_reducible first | exact HB.out | apply below_alloc | apply pw_below_drewN | apply below_drew1) | exact HB.out)) hb); clear HB; have HB := n0_; clear n0_; (try clear hb); (try clear hb2); (try clear hk); (try clear hi)))
              go_ret
              exact ⟨by first | rfl | (simp [errW_none, errW_some] <;> rfl) | (simp [*, errW_none, errW_some] <;> rfl), by repeat (first | (with_reducible first | exact HB.out | apply below_alloc | apply pw_below_drewN | apply below_drew1) | exact HB.out)⟩
            · rw [if_neg c9] at H
              exact absurd H (by simp)
          · rw [if_neg c8] at H
            exact absurd H (by simp)
        · rw [if_neg c7] at H
          have c7b0 : ((t165.size : Int) == 37) = false := beq_eq_false_iff_ne.mpr c7
          have c7b1 : ((t165.size : Int) != 37) = true := bne_iff_ne.mpr c7
          obtain rfl := Option.some.inj H
          go_enter Try.func36, Try.ntmps36
          go_wp2_with (first | ((with_reducible refine gate_callee (f := 55) rfl ?_); refine goesL_ (some 5) rfl rfl Try.func55 (by kernel_rfl) rfl #[.agg #[.int .u8 0, .bool true, .bool false, .bool false, .int .u64 2], .int .u8 7] rfl (by (try simp only [List.map_toArray, List.map_cons, List.map_nil]); first | done | rfl | (simp only [List.length_drop, List.length_take]; rfl)) ?_; (with_reducible refine (raps_Close.calls k 0 true false false 2 7 t165 t166 _ A1.out).mono ?_); rintro e w13 ⟨rfl, hb⟩; refine ⟨_, rfl, ?_⟩; have n0_ := Aside0.mk (below_step (by repeat (first | (with_reducible first | exact HB.out | apply below_alloc | apply pw_below_drewN | apply below_drew1) | exact HB.out)) hb); clear HB; have HB := n0_; clear n0_; (try clear hb); (try clear hb2); (try clear hk); (try clear hi)) | ((with_reducible refine gate_callee (f := 29) rfl ?_); refine goesL_ (some 8) rfl rfl Try.func29 (by kernel_rfl) rfl #[] rfl (by (try simp only [List.map_toArray, List.map_cons, List.map_nil]); first | done | rfl | (simp only [List.length_drop, List.length_take]; rfl)) ?_; (with_reducible refine (carousellaw02_Awake.calls k  true _ A2.out).mono ?_); rintro e w14 ⟨rfl, hb⟩; refine ⟨_, rfl, ?_⟩; have n0_ := Aside0.mk (below_step (by repeat (first | (with_reducible first | exact HB.out | apply below_alloc | apply pw_below_drewN | apply below_drew1) | exact HB.out)) hb); clear HB; have HB := n0_; clear n0_; (try clear hb); (try clear hb2); (try clear hk); (try clear hi)) | (go_at_call 56; (with_reducible refine (carousellaw04_Awake.calls  true _ A4.out).mono ?_); rintro e w15 ⟨rfl, hb⟩; have n0_ := Aside0.mk (below_step (by repeat (first | (with_reducible first | exact HB.out | apply below_alloc | apply pw_below_drewN | apply below_drew1) | exact HB.out)) hb); clear HB; have HB := n0_; clear n0_; (try clear hb); (try clear hb2); (try clear hk); (try clear hi)))
          go_ret
          exact ⟨by first | rfl | (simp [errW_none, errW_some] <;> rfl) | (simp [*, errW_none, errW_some] <;> rfl), by repeat (first | (with_reducible first | exact HB.out | apply below_alloc | apply pw_below_drewN | apply below_drew1) | exact HB.out)⟩
      · rw [if_neg c6] at H
        have c6b0 : (t166 == 0) = false := beq_eq_false_iff_ne.mpr c6
        have c6b1 : (t166 != 0) = true := bne_iff_ne.mpr c6
        obtain rfl := Option.some.inj H
        go_enter Try.func36, Try.ntmps36
        go_wp2_with (first | ((with_reducible refine gate_callee (f := 55) rfl ?_); refine goesL_ (some 5) rfl rfl Try.func55 (by kernel_rfl) rfl #[.agg #[.int .u8 0, .bool true, .bool false, .bool false, .int .u64 2], .int .u8 7] rfl (by (try simp only [List.map_toArray, List.map_cons, List.map_nil]); first | done | rfl | (simp only [List.length_drop, List.length_take]; rfl)) ?_; (with_reducible refine (raps_Close.calls k 0 true false false 2 7 t165 t166 _ A1.out).mono ?_); rintro e w16 ⟨rfl, hb⟩; refine ⟨_, rfl, ?_⟩; have n0_ := Aside0.mk (below_step (by repeat (first | (with_reducible first | exact HB.out | apply below_alloc | apply pw_below_drewN | apply below_drew1) | exact HB.out)) hb); clear HB; have HB := n0_; clear n0_; (try clear hb); (try clear hb2); (try clear hk); (try clear hi)) | ((with_reducible refine gate_callee (f := 29) rfl ?_); refine goesL_ (some 8) rfl rfl Try.func29 (by kernel_rfl) rfl #[] rfl (by (try simp only [List.map_toArray, List.map_cons, List.map_nil]); first | done | rfl | (simp only [List.length_drop, List.length_take]; rfl)) ?_; (with_reducible refine (carousellaw02_Awake.calls k  true _ A2.out).mono ?_); rintro e w17 ⟨rfl, hb⟩; refine ⟨_, rfl, ?_⟩; have n0_ := Aside0.mk (below_step (by repeat (first | (with_reducible first | exact HB.out | apply below_alloc | apply pw_below_drewN | apply below_drew1) | exact HB.out)) hb); clear HB; have HB := n0_; clear n0_; (try clear hb); (try clear hb2); (try clear hk); (try clear hi)) | (go_at_call 56; (with_reducible refine (carousellaw04_Awake.calls  true _ A4.out).mono ?_); rintro e w18 ⟨rfl, hb⟩; have n0_ := Aside0.mk (below_step (by repeat (first | (with_reducible first | exact HB.out | apply below_alloc | apply pw_below_drewN | apply below_drew1) | exact HB.out)) hb); clear HB; have HB := n0_; clear n0_; (try clear hb); (try clear hb2); (try clear hk); (try clear hi)))
        go_ret
        exact ⟨by first | rfl | (simp [errW_none, errW_some] <;> rfl) | (simp [*, errW_none, errW_some] <;> rfl), by repeat (first | (with_reducible first | exact HB.out | apply below_alloc | apply pw_below_drewN | apply below_drew1) | exact HB.out)⟩
    · replace c5 := Bool.eq_false_iff.mpr c5
      subst c5
      have H1 : (some false) = some r := by rw [if_neg (show ¬ (false = true) by decide)] at H; exact H
      clear H
      have H := H1
      clear H1
      obtain rfl := Option.some.inj H
      go_enter Try.func36, Try.ntmps36
      go_wp2_with (first | ((with_reducible refine gate_callee (f := 55) rfl ?_); refine goesL_ (some 5) rfl rfl Try.func55 (by kernel_rfl) rfl #[.agg #[.int .u8 0, .bool true, .bool false, .bool false, .int .u64 2], .int .u8 7] rfl (by (try simp only [List.map_toArray, List.map_cons, List.map_nil]); first | done | rfl | (simp only [List.length_drop, List.length_take]; rfl)) ?_; (with_reducible refine (raps_Close.calls k 0 true false false 2 7 t165 t166 _ A1.out).mono ?_); rintro e w19 ⟨rfl, hb⟩; refine ⟨_, rfl, ?_⟩; have n0_ := Aside0.mk (below_step (by repeat (first | (with_reducible first | exact HB.out | apply below_alloc | apply pw_below_drewN | apply below_drew1) | exact HB.out)) hb); clear HB; have HB := n0_; clear n0_; (try clear hb); (try clear hb2); (try clear hk); (try clear hi)) | ((with_reducible refine gate_callee (f := 29) rfl ?_); refine goesL_ (some 8) rfl rfl Try.func29 (by kernel_rfl) rfl #[] rfl (by (try simp only [List.map_toArray, List.map_cons, List.map_nil]); first | done | rfl | (simp only [List.length_drop, List.length_take]; rfl)) ?_; (with_reducible refine (carousellaw02_Awake.calls k  true _ A2.out).mono ?_); rintro e w20 ⟨rfl, hb⟩; refine ⟨_, rfl, ?_⟩; have n0_ := Aside0.mk (below_step (by repeat (first | (with_reducible first | exact HB.out | apply below_alloc | apply pw_below_drewN | apply below_drew1) | exact HB.out)) hb); clear HB; have HB := n0_; clear n0_; (try clear hb); (try clear hb2); (try clear hk); (try clear hi)) | (go_at_call 56; (with_reducible refine (carousellaw04_Awake.calls  false _ A4.out).mono ?_); rintro e w21 ⟨rfl, hb⟩; have n0_ := Aside0.mk (below_step (by repeat (first | (with_reducible first | exact HB.out | apply below_alloc | apply pw_below_drewN | apply below_drew1) | exact HB.out)) hb); clear HB; have HB := n0_; clear n0_; (try clear hb); (try clear hb2); (try clear hk); (try clear hi)))
      go_ret
      exact ⟨by first | rfl | (simp [errW_none, errW_some] <;> rfl) | (simp [*, errW_none, errW_some] <;> rfl), by repeat (first | (with_reducible first | exact HB.out | apply below_alloc | apply pw_below_drewN | apply below_drew1) | exact HB.out)⟩
  · replace c3 := Bool.eq_false_iff.mpr c3
    subst c3
    have H1 : (some false) = some r := by rw [if_neg (show ¬ (false = true) by decide)] at H; exact H
    clear H
    have H := H1
    clear H1
    obtain rfl := Option.some.inj H
    go_enter Try.func36, Try.ntmps36
    go_wp2_with (first | ((with_reducible refine gate_callee (f := 55) rfl ?_); refine goesL_ (some 5) rfl rfl Try.func55 (by kernel_rfl) rfl #[.agg #[.int .u8 0, .bool true, .bool false, .bool false, .int .u64 2], .int .u8 7] rfl (by (try simp only [List.map_toArray, List.map_cons, List.map_nil]); first | done | rfl | (simp only [List.length_drop, List.length_take]; rfl)) ?_; (with_reducible refine (raps_Close.calls k 0 true false false 2 7 t165 t166 _ A1.out).mono ?_); rintro e w22 ⟨rfl, hb⟩; refine ⟨_, rfl, ?_⟩; have n0_ := Aside0.mk (below_step (by repeat (first | (with_reducible first | exact HB.out | apply below_alloc | apply pw_below_drewN | apply below_drew1) | exact HB.out)) hb); clear HB; have HB := n0_; clear n0_; (try clear hb); (try clear hb2); (try clear hk); (try clear hi)) | ((with_reducible refine gate_callee (f := 29) rfl ?_); refine goesL_ (some 8) rfl rfl Try.func29 (by kernel_rfl) rfl #[] rfl (by (try simp only [List.map_toArray, List.map_cons, List.map_nil]); first | done | rfl | (simp only [List.length_drop, List.length_take]; rfl)) ?_; (with_reducible refine (carousellaw02_Awake.calls k  false _ A2.out).mono ?_); rintro e w23 ⟨rfl, hb⟩; refine ⟨_, rfl, ?_⟩; have n0_ := Aside0.mk (below_step (by repeat (first | (with_reducible first | exact HB.out | apply below_alloc | apply pw_below_drewN | apply below_drew1) | exact HB.out)) hb); clear HB; have HB := n0_; clear n0_; (try clear hb); (try clear hb2); (try clear hk); (try clear hi)))
    go_ret
    exact ⟨by first | rfl | (simp [errW_none, errW_some] <;> rfl) | (simp [*, errW_none, errW_some] <;> rfl), by repeat (first | (with_reducible first | exact HB.out | apply below_alloc | apply pw_below_drewN | apply below_drew1) | exact HB.out)⟩

/-! ### req_Best: function 37 -/
def req_Best.l0 : Nat → Int → List Int → Int → Int → Option (Int)
  | 0, _, _, _, _ => none
  | k + 1, x3, x6, x7, x8 => if x8 < x7 then (if 0 ≤ x8 then (if x8 < (x6.length : Int) then ((req_Kind_Above.f (rd x6 x8) x3).bind fun t170 => (if t170 = true then (req_Best.l0 k (rd x6 x8) x6 x7 (wrap64 (x8 + 1))) else (req_Best.l0 k x3 x6 x7 (wrap64 (x8 + 1))))) else (none)) else (none)) else (some x3)
def req_Best.f (k : Nat) (l0 : List Int) : Option (Int) := req_Best.l0 k 14 l0 (l0.length : Int) 0
theorem req_Best.mono_l : ∀ k, (∀ y0 y1 y2 y3, LeO (req_Best.l0 k y0 y1 y2 y3) (req_Best.l0 (k + 1) y0 y1 y2 y3))
  | 0 => fun _ _ _ _ r h => by simp [req_Best.l0] at h
  | k + 1 => by
    have ih0 := req_Best.mono_l k
    · intro y0 y1 y2 y3
      unfold req_Best.l0
      repeat' first
      | (with_reducible exact ih0 _ _ _ _)
      | (with_reducible exact LeO.refl _)
      | (with_reducible exact LeO.none _)
      | (with_reducible refine LeO.ite ?_ ?_)
      | (with_reducible refine LeO.bind ?_ (fun _ => ?_))
      | exact ih0 _ _ _ _
      | exact LeO.none _
      | refine LeO.ite ?_ ?_
      | refine LeO.bind ?_ (fun _ => ?_)
theorem req_Best.mono : ∀ a0 k, LeO (req_Best.f k a0) (req_Best.f (k + 1) a0) := by
  intro a0 k
  have ih0 := req_Best.mono_l k
  unfold req_Best.f
  repeat' first
      | (with_reducible exact ih0 _ _ _ _)
      | (with_reducible exact LeO.refl _)
      | (with_reducible exact LeO.none _)
      | (with_reducible refine LeO.ite ?_ ?_)
      | (with_reducible refine LeO.bind ?_ (fun _ => ?_))
      | exact ih0 _ _ _ _
      | exact LeO.none _
      | refine LeO.ite ?_ ?_
      | refine LeO.bind ?_ (fun _ => ?_)
set_option maxHeartbeats 8000000 in
set_option maxRecDepth 100000 in
theorem req_Best.calls (k : Nat) (A0 : Option Addr) (c0 : Nat) (l0 : List Int) (r : Int) (w : World) (hr0 : Kd.C (Kd.int .i64) w A0 l0.length l0) (hc0 : l0.length ≤ c0) (h : req_Best.f k l0 = some r) :
    Calls Try.prog 37 #[.slice A0 l0.length c0] w fun e w' => e = .returned (.int .i64 r) ∧ Drawn0 w w' := by
  have HR0 := Aside0.mk hr0
  have HC0 := Aside0.mk hc0
  clear hr0 hc0
  have H : (req_Best.l0 k 14 l0 (l0.length : Int) 0) = some r := h
  clear h
  have H' := Aside0.mk H
  clear H
  go_enter Try.func37, Try.ntmps37
  go_wp2
  go_loopg [3, 8] k (fun kq v3 v8 w' => ∃ (x3_1 : Int) (x8_1 : Int), v3 = .int .i64 x3_1 ∧ v8 = .int .i64 x8_1 ∧ Aside0 (req_Best.l0 kq x3_1 l0 (l0.length : Int) x8_1 = some r) ∧ Aside0 (kq ≤ k) ∧ Drawn0 w w')
  case atStart => exact ⟨(14), (0), (by first | rfl | (simp; done) | (simp [*]; done)), (by first | rfl | (simp; done) | (simp [*]; done)), H', ⟨Nat.le_refl _⟩, by repeat (first | exact Drawn0.refl _ | apply Drawn0.step)⟩
  case round =>
    clear H'
    obtain ⟨x3_1, x8_1, rfl, rfl, HA, HK1, ⟨m1, rfl⟩⟩ := hrel
    cases gk with
    | zero => exact absurd HA.out (by simp [req_Best.l0])
    | succ k1 =>
      have H := HA.out
      clear HA
      simp only [req_Best.l0] at H
      by_cases c2 : x8_1 < (l0.length : Int)
      · rw [if_pos c2] at H
        have c2b0 : decide (x8_1 < (l0.length : Int)) = true := decide_eq_true c2
        clear c2
        by_cases c3 : 0 ≤ x8_1
        · rw [if_pos c3] at H
          have c3b0 : decide (0 ≤ x8_1) = true := decide_eq_true c3
          clear c3
          by_cases c4 : x8_1 < (l0.length : Int)
          · rw [if_pos c4] at H
            have c4b0 : decide (x8_1 < (l0.length : Int)) = true := decide_eq_true c4
            clear c4
            replace H := Option.bind_eq_some_iff.mp H
            obtain ⟨t170, A50, H⟩ := H
            replace H : (if t170 = true then (req_Best.l0 k1 (rd l0 x8_1) l0 (l0.length : Int) (wrap64 (x8_1 + 1))) else (req_Best.l0 k1 x3_1 l0 (l0.length : Int) (wrap64 (x8_1 + 1)))) = some r := H
            have A5 := Aside0.mk A50
            clear A50
            by_cases c6 : t170 = true
            · subst c6
              have H1 : (req_Best.l0 k1 (rd l0 x8_1) l0 (l0.length : Int) (wrap64 (x8_1 + 1))) = some r := by rw [if_pos rfl] at H; exact H
              clear H
              have H := H1
              clear H1
              have H' := Aside0.mk H
              clear H
              have p169 : 0 ≤ (x8_1 : Int) := of_decide_eq_true (by first | (with_reducible assumption) | assumption)
              have q169 : x8_1 < (l0.length : Int) := of_decide_eq_true (by first | (with_reducible assumption) | assumption)
              obtain ⟨ad169, e169, hx169_0⟩ := Kd.at_int HR0.out x8_1 p169 q169
              cases e169
              replace p169 := eq_true p169
              replace q169 := eq_true q169
              go_wp2_with (first | ((with_reducible refine gate_callee (f := 21) rfl ?_); refine goesL_ (some 14) rfl rfl Try.func21 (by kernel_rfl) rfl #[.int .i64 (rd l0 x8_1), .int .i64 x3_1] rfl (by (try simp only [List.map_toArray, List.map_cons, List.map_nil]); first | done | rfl | (simp only [List.length_drop, List.length_take]; rfl)) ?_; (with_reducible refine (req_Kind_Above.calls (rd l0 x8_1) x3_1 true _ A5.out).mono ?_); rintro e w' ⟨rfl, ⟨nd, rfl⟩⟩; refine ⟨_, rfl, ?_⟩))
              go_roundg k1
              case measure => have := HK1.out; omega
              case rel => exact ⟨(rd l0 x8_1), (wrap64 (x8_1 + 1)), (by first | rfl | (simp; done) | (simp [*]; done)), (by first | rfl | (simp; done) | (simp [*]; done)), H', ⟨by have := HK1.out; omega⟩, by repeat (first | exact Drawn0.refl _ | apply Drawn0.step)⟩
            · replace c6 := Bool.eq_false_iff.mpr c6
              subst c6
              have H1 : (req_Best.l0 k1 x3_1 l0 (l0.length : Int) (wrap64 (x8_1 + 1))) = some r := by rw [if_neg (show ¬ (false = true) by decide)] at H; exact H
              clear H
              have H := H1
              clear H1
              have H' := Aside0.mk H
              clear H
              have p169 : 0 ≤ (x8_1 : Int) := of_decide_eq_true (by first | (with_reducible assumption) | assumption)
              have q169 : x8_1 < (l0.length : Int) := of_decide_eq_true (by first | (with_reducible assumption) | assumption)
              obtain ⟨ad169, e169, hx169_0⟩ := Kd.at_int HR0.out x8_1 p169 q169
              cases e169
              replace p169 := eq_true p169
              replace q169 := eq_true q169
              go_wp2_with (first | ((with_reducible refine gate_callee (f := 21) rfl ?_); refine goesL_ (some 14) rfl rfl Try.func21 (by kernel_rfl) rfl #[.int .i64 (rd l0 x8_1), .int .i64 x3_1] rfl (by (try simp only [List.map_toArray, List.map_cons, List.map_nil]); first | done | rfl | (simp only [List.length_drop, List.length_take]; rfl)) ?_; (with_reducible refine (req_Kind_Above.calls (rd l0 x8_1) x3_1 false _ A5.out).mono ?_); rintro e w' ⟨rfl, ⟨nd, rfl⟩⟩; refine ⟨_, rfl, ?_⟩))
              go_roundg k1
              case measure => have := HK1.out; omega
              case rel => exact ⟨(x3_1), (wrap64 (x8_1 + 1)), (by first | rfl | (simp; done) | (simp [*]; done)), (by first | rfl | (simp; done) | (simp [*]; done)), H', ⟨by have := HK1.out; omega⟩, by repeat (first | exact Drawn0.refl _ | apply Drawn0.step)⟩
          · rw [if_neg c4] at H
            exact absurd H (by simp)
        · rw [if_neg c3] at H
          exact absurd H (by simp)
      · rw [if_neg c2] at H
        have c2b0 : decide (x8_1 < (l0.length : Int)) = false := decide_eq_false c2
        clear c2
        obtain rfl := Option.some.inj H
        go_wp2
        go_ret
        exact ⟨by first | rfl | (simp; done) | (simp [*]; done), by repeat (first | exact Drawn0.refl _ | apply Drawn0.step)⟩

/-! ### carousellaw12_Awake: function 14 -/
def carousellaw12_Awake.f (k : Nat)  : Option (Bool) := (carousellaw05_Awake.f k).bind fun t171 => (if t171 = true then ((req_Kind_Above.f 1 2).bind fun t172 => (if t172 = true then ((req_Best.f k (([3, 7] : List Int))).bind fun t176 => (if t176 = 3 then ((req_Kind_String.f 12).bind fun t177 => (some (t177.toList == ([114, 101, 109, 111, 116, 101, 45, 105, 100, 108, 101] : List UInt8)))) else (some false))) else (some false))) else (some false))
theorem carousellaw12_Awake.mono : ∀ k, LeO (carousellaw12_Awake.f k ) (carousellaw12_Awake.f (k + 1) ) := by
  intro  k
  unfold carousellaw12_Awake.f
  repeat' first
      | (with_reducible exact carousellaw05_Awake.mono _)
      | (with_reducible exact req_Best.mono _ _)
      | (with_reducible exact LeO.refl _)
      | (with_reducible exact LeO.none _)
      | (with_reducible refine LeO.ite ?_ ?_)
      | (with_reducible refine LeO.bind ?_ (fun _ => ?_))
      | exact carousellaw05_Awake.mono _
      | exact req_Best.mono _ _
      | exact LeO.none _
      | refine LeO.ite ?_ ?_
      | refine LeO.bind ?_ (fun _ => ?_)
set_option maxHeartbeats 8000000 in
set_option maxRecDepth 100000 in
theorem carousellaw12_Awake.calls (k : Nat)  (r : Bool) (w : World) (h : carousellaw12_Awake.f k  = some r) :
    Calls Try.prog 14 #[] w fun e w' => e = .returned (.bool r) ∧ Below w.heap.size w w' := by
  have HB := Aside0.mk (Below.refl w.heap.size w)
  have H : ((carousellaw05_Awake.f k).bind fun t171 => (if t171 = true then ((req_Kind_Above.f 1 2).bind fun t172 => (if t172 = true then ((req_Best.f k (([3, 7] : List Int))).bind fun t176 => (if t176 = 3 then ((req_Kind_String.f 12).bind fun t177 => (some (t177.toList == ([114, 101, 109, 111, 116, 101, 45, 105, 100, 108, 101] : List UInt8)))) else (some false))) else (some false))) else (some false))) = some r := h
  clear h
  replace H := Option.bind_eq_some_iff.mp H
  obtain ⟨t171, A10, H⟩ := H
  replace H : (if t171 = true then ((req_Kind_Above.f 1 2).bind fun t172 => (if t172 = true then ((req_Best.f k (([3, 7] : List Int))).bind fun t176 => (if t176 = 3 then ((req_Kind_String.f 12).bind fun t177 => (some (t177.toList == ([114, 101, 109, 111, 116, 101, 45, 105, 100, 108, 101] : List UInt8)))) else (some false))) else (some false))) else (some false)) = some r := H
  have A1 := Aside0.mk A10
  clear A10
  by_cases c2 : t171 = true
  · subst c2
    have H1 : ((req_Kind_Above.f 1 2).bind fun t172 => (if t172 = true then ((req_Best.f k (([3, 7] : List Int))).bind fun t176 => (if t176 = 3 then ((req_Kind_String.f 12).bind fun t177 => (some (t177.toList == ([114, 101, 109, 111, 116, 101, 45, 105, 100, 108, 101] : List UInt8)))) else (some false))) else (some false))) = some r := by rw [if_pos rfl] at H; exact H
    clear H
    have H := H1
    clear H1
    replace H := Option.bind_eq_some_iff.mp H
    obtain ⟨t172, A30, H⟩ := H
    replace H : (if t172 = true then ((req_Best.f k (([3, 7] : List Int))).bind fun t176 => (if t176 = 3 then ((req_Kind_String.f 12).bind fun t177 => (some (t177.toList == ([114, 101, 109, 111, 116, 101, 45, 105, 100, 108, 101] : List UInt8)))) else (some false))) else (some false)) = some r := H
    have A3 := Aside0.mk A30
    clear A30
    by_cases c4 : t172 = true
    · subst c4
      have H1 : ((req_Best.f k (([3, 7] : List Int))).bind fun t176 => (if t176 = 3 then ((req_Kind_String.f 12).bind fun t177 => (some (t177.toList == ([114, 101, 109, 111, 116, 101, 45, 105, 100, 108, 101] : List UInt8)))) else (some false))) = some r := by rw [if_pos rfl] at H; exact H
      clear H
      have H := H1
      clear H1
      obtain ⟨y173, hy173⟩ : ∃ y_ : List Int, y_ = (([3, 7] : List Int)) := ⟨_, rfl⟩
      replace H : ((req_Best.f k y173).bind fun t176 => (if t176 = 3 then ((req_Kind_String.f 12).bind fun t177 => (some (t177.toList == ([114, 101, 109, 111, 116, 101, 45, 105, 100, 108, 101] : List UInt8)))) else (some false))) = some r := by first | (rw [hy173]; with_reducible exact H) | (have H2_ := (Option.bind_some _ _).symm.trans H; rw [hy173]; with_reducible exact H2_) | (have H2_ := (Option.bind_some _ _).symm.trans H; with_reducible exact H2_) | with_reducible exact H | (rw [hy173]; exact H) | exact H
      have Ny173 := Aside0.mk hy173
      clear hy173
      replace H := Option.bind_eq_some_iff.mp H
      obtain ⟨t176, A50, H⟩ := H
      replace H : (if t176 = 3 then ((req_Kind_String.f 12).bind fun t177 => (some (t177.toList == ([114, 101, 109, 111, 116, 101, 45, 105, 100, 108, 101] : List UInt8)))) else (some false)) = some r := H
      have A5 := Aside0.mk A50
      clear A50
      by_cases c6 : t176 = 3
      · rw [if_pos c6] at H
        have c6b0 : (t176 == 3) = true := beq_iff_eq.mpr c6
        have c6b1 : (t176 != 3) = false := bne_eq_false_iff_eq.mpr c6
        clear c6
        replace H := Option.bind_eq_some_iff.mp H
        obtain ⟨t177, A70, H⟩ := H
        replace H : (some (t177.toList == ([114, 101, 109, 111, 116, 101, 45, 105, 100, 108, 101] : List UInt8))) = some r := H
        have A7 := Aside0.mk A70
        clear A70
        obtain rfl := Option.some.inj H
        go_enter Try.func14, Try.ntmps14
        go_wp2_with (first | ((with_reducible refine gate_callee (f := 36) rfl ?_); refine goesL_ (some 1) rfl rfl Try.func36 (by kernel_rfl) rfl #[] rfl (by (try simp only [List.map_toArray, List.map_cons, List.map_nil]); first | done | rfl | (simp only [List.length_drop, List.length_take]; rfl)) ?_; (with_reducible refine (carousellaw05_Awake.calls k  true _ A1.out).mono ?_); rintro e w8 ⟨rfl, hb⟩; refine ⟨_, rfl, ?_⟩; have n0_ := Aside0.mk (below_step (by repeat (first | (with_reducible first | exact HB.out | apply below_alloc | apply pw_below_drewN | apply below_drew1) | exact HB.out)) hb); clear HB; have HB := n0_; clear n0_; (try clear hb); (try clear hb2); (try clear hk); (try clear hi)) | (go_at_call 21; (with_reducible refine (req_Kind_Above.calls 1 2 true _ A3.out).mono ?_); rintro e w' ⟨rfl, ⟨nd, rfl⟩⟩) | ((with_reducible refine gate_dst (N := 6) rfl ?_); (try (refine gate_guard (by rfl) ?_; dsimp only)); refine Kd.R_lit (Kd.int .i64) _ 40 ?hg (N := 6) ?hd (xs := ([3, 7] : List Int)) (inner := [.int .i64 3, .int .i64 7]) (ok := fun _ => True) (okp := fun _ => True) ?hr ?hp (fun _ hk => hk) trivial (Below.refl _ _) (Nat.le_refl _) (by simp) ?_; (case hd => rfl); (case hg => rfl); (case hr => first | (go_simp; done) | (go_simp; rfl)); (case hp => exact (Reps.one (show Kd.M (Kd.int .i64) _ _ _ 3 [.int .i64 3] from rfl) (Reps.one (show Kd.M (Kd.int .i64) _ _ _ 7 [.int .i64 7] from rfl) (Reps.none _ _)))); intro v174 w9 ho10 hb hg_ hnew_; clear hg_ hnew_; (first | rw [← Ny173.out] at ho10 | (simp only [Int.reduceToNat] at ho10; rw [← Ny173.out] at ho10)); have n0_ := Aside0.mk (Kd.R_lower ho10 (below_size (by repeat (first | (with_reducible first | exact HB.out | apply below_alloc | apply pw_below_drewN | apply below_drew1) | exact HB.out)))); have n1_ := Aside0.mk (below_step (by repeat (first | (with_reducible first | exact HB.out | apply below_alloc | apply pw_below_drewN | apply below_drew1) | exact HB.out)) hb); clear HB; have HO175 := n0_; have HB := n1_; clear n0_ n1_; clear hb ho10; obtain ⟨Ao11, co11, eo11⟩ := Kd.R_slice HO175.out; subst eo11) | (go_at_call 37; (with_reducible refine (req_Best.calls k _ _ y173 t176 _ ?side1 ?side2 A5.out).mono ?_); (case side1 => repeat (first | exact (Kd.R_reads' HO175.out).2.2 | (with_reducible refine Kd.C_alloc ?_ _) | (with_reducible refine Kd.C_drewN ?_ _) | (with_reducible refine Kd.C_drew ?_))); (case side2 => exact (Kd.R_reads' HO175.out).2.1); rintro e w' ⟨rfl, ⟨nd, rfl⟩⟩) | (go_at_call 19; (with_reducible refine (req_Kind_String.calls 12 t177 _ A7.out).mono ?_); rintro e w12 ⟨rfl, hb⟩; have n0_ := Aside0.mk (Kd.R_below (by (with_reducible repeat (first | apply Kd.R_alloc | apply Kd.R_drewN | apply Kd.R_drew)); exact HO175.out) hb); have n1_ := Aside0.mk (below_step (by repeat (first | (with_reducible first | exact HB.out | apply below_alloc | apply pw_below_drewN | apply below_drew1) | exact HB.out)) hb); clear HO175; clear HB; have HO175 := n0_; have HB := n1_; clear n0_ n1_; (try clear hb); (try clear hb2); (try clear hk); (try clear hi)))
        go_ret
        exact ⟨by first | rfl | (simp [errW_none, errW_some] <;> rfl) | (simp [*, errW_none, errW_some] <;> rfl), by repeat (first | (with_reducible first | exact HB.out | apply below_alloc | apply pw_below_drewN | apply below_drew1) | exact HB.out)⟩
      · rw [if_neg c6] at H
        have c6b0 : (t176 == 3) = false := beq_eq_false_iff_ne.mpr c6
        have c6b1 : (t176 != 3) = true := bne_iff_ne.mpr c6
        obtain rfl := Option.some.inj H
        go_enter Try.func14, Try.ntmps14
        go_wp2_with (first | ((with_reducible refine gate_callee (f := 36) rfl ?_); refine goesL_ (some 1) rfl rfl Try.func36 (by kernel_rfl) rfl #[] rfl (by (try simp only [List.map_toArray, List.map_cons, List.map_nil]); first | done | rfl | (simp only [List.length_drop, List.length_take]; rfl)) ?_; (with_reducible refine (carousellaw05_Awake.calls k  true _ A1.out).mono ?_); rintro e w13 ⟨rfl, hb⟩; refine ⟨_, rfl, ?_⟩; have n0_ := Aside0.mk (below_step (by repeat (first | (with_reducible first | exact HB.out | apply below_alloc | apply pw_below_drewN | apply below_drew1) | exact HB.out)) hb); clear HB; have HB := n0_; clear n0_; (try clear hb); (try clear hb2); (try clear hk); (try clear hi)) | (go_at_call 21; (with_reducible refine (req_Kind_Above.calls 1 2 true _ A3.out).mono ?_); rintro e w' ⟨rfl, ⟨nd, rfl⟩⟩) | ((with_reducible refine gate_dst (N := 6) rfl ?_); (try (refine gate_guard (by rfl) ?_; dsimp only)); refine Kd.R_lit (Kd.int .i64) _ 40 ?hg (N := 6) ?hd (xs := ([3, 7] : List Int)) (inner := [.int .i64 3, .int .i64 7]) (ok := fun _ => True) (okp := fun _ => True) ?hr ?hp (fun _ hk => hk) trivial (Below.refl _ _) (Nat.le_refl _) (by simp) ?_; (case hd => rfl); (case hg => rfl); (case hr => first | (go_simp; done) | (go_simp; rfl)); (case hp => exact (Reps.one (show Kd.M (Kd.int .i64) _ _ _ 3 [.int .i64 3] from rfl) (Reps.one (show Kd.M (Kd.int .i64) _ _ _ 7 [.int .i64 7] from rfl) (Reps.none _ _)))); intro v174 w14 ho15 hb hg_ hnew_; clear hg_ hnew_; (first | rw [← Ny173.out] at ho15 | (simp only [Int.reduceToNat] at ho15; rw [← Ny173.out] at ho15)); have n0_ := Aside0.mk (Kd.R_lower ho15 (below_size (by repeat (first | (with_reducible first | exact HB.out | apply below_alloc | apply pw_below_drewN | apply below_drew1) | exact HB.out)))); have n1_ := Aside0.mk (below_step (by repeat (first | (with_reducible first | exact HB.out | apply below_alloc | apply pw_below_drewN | apply below_drew1) | exact HB.out)) hb); clear HB; have HO175 := n0_; have HB := n1_; clear n0_ n1_; clear hb ho15; obtain ⟨Ao16, co16, eo16⟩ := Kd.R_slice HO175.out; subst eo16) | (go_at_call 37; (with_reducible refine (req_Best.calls k _ _ y173 t176 _ ?side1 ?side2 A5.out).mono ?_); (case side1 => repeat (first | exact (Kd.R_reads' HO175.out).2.2 | (with_reducible refine Kd.C_alloc ?_ _) | (with_reducible refine Kd.C_drewN ?_ _) | (with_reducible refine Kd.C_drew ?_))); (case side2 => exact (Kd.R_reads' HO175.out).2.1); rintro e w' ⟨rfl, ⟨nd, rfl⟩⟩))
        go_ret
        exact ⟨by first | rfl | (simp [errW_none, errW_some] <;> rfl) | (simp [*, errW_none, errW_some] <;> rfl), by repeat (first | (with_reducible first | exact HB.out | apply below_alloc | apply pw_below_drewN | apply below_drew1) | exact HB.out)⟩
    · replace c4 := Bool.eq_false_iff.mpr c4
      subst c4
      have H1 : (some false) = some r := by rw [if_neg (show ¬ (false = true) by decide)] at H; exact H
      clear H
      have H := H1
      clear H1
      obtain rfl := Option.some.inj H
      go_enter Try.func14, Try.ntmps14
      go_wp2_with (first | ((with_reducible refine gate_callee (f := 36) rfl ?_); refine goesL_ (some 1) rfl rfl Try.func36 (by kernel_rfl) rfl #[] rfl (by (try simp only [List.map_toArray, List.map_cons, List.map_nil]); first | done | rfl | (simp only [List.length_drop, List.length_take]; rfl)) ?_; (with_reducible refine (carousellaw05_Awake.calls k  true _ A1.out).mono ?_); rintro e w17 ⟨rfl, hb⟩; refine ⟨_, rfl, ?_⟩; have n0_ := Aside0.mk (below_step (by repeat (first | (with_reducible first | exact HB.out | apply below_alloc | apply pw_below_drewN | apply below_drew1) | exact HB.out)) hb); clear HB; have HB := n0_; clear n0_; (try clear hb); (try clear hb2); (try clear hk); (try clear hi)) | (go_at_call 21; (with_reducible refine (req_Kind_Above.calls 1 2 false _ A3.out).mono ?_); rintro e w' ⟨rfl, ⟨nd, rfl⟩⟩))
      go_ret
      exact ⟨by first | rfl | (simp [errW_none, errW_some] <;> rfl) | (simp [*, errW_none, errW_some] <;> rfl), by repeat (first | (with_reducible first | exact HB.out | apply below_alloc | apply pw_below_drewN | apply below_drew1) | exact HB.out)⟩
  · replace c2 := Bool.eq_false_iff.mpr c2
    subst c2
    have H1 : (some false) = some r := by rw [if_neg (show ¬ (false = true) by decide)] at H; exact H
    clear H
    have H := H1
    clear H1
    obtain rfl := Option.some.inj H
    go_enter Try.func14, Try.ntmps14
    go_wp2_with (first | ((with_reducible refine gate_callee (f := 36) rfl ?_); refine goesL_ (some 1) rfl rfl Try.func36 (by kernel_rfl) rfl #[] rfl (by (try simp only [List.map_toArray, List.map_cons, List.map_nil]); first | done | rfl | (simp only [List.length_drop, List.length_take]; rfl)) ?_; (with_reducible refine (carousellaw05_Awake.calls k  false _ A1.out).mono ?_); rintro e w18 ⟨rfl, hb⟩; refine ⟨_, rfl, ?_⟩; have n0_ := Aside0.mk (below_step (by repeat (first | (with_reducible first | exact HB.out | apply below_alloc | apply pw_below_drewN | apply below_drew1) | exact HB.out)) hb); clear HB; have HB := n0_; clear n0_; (try clear hb); (try clear hb2); (try clear hk); (try clear hi)))
    go_ret
    exact ⟨by first | rfl | (simp [errW_none, errW_some] <;> rfl) | (simp [*, errW_none, errW_some] <;> rfl), by repeat (first | (with_reducible first | exact HB.out | apply below_alloc | apply pw_below_drewN | apply below_drew1) | exact HB.out)⟩

/-! ### carouselref12_May: function 16 -/
def carouselref12_May.f (a0 : Int) : Option (Bool) := if a0 ≥ 0 then (some (decide (a0 ≤ 13))) else (some false)
set_option maxHeartbeats 8000000 in
set_option maxRecDepth 100000 in
theorem carouselref12_May.calls (a0 : Int) (r : Bool) (w : World) (h : carouselref12_May.f a0 = some r) :
    Calls Try.prog 16 #[.int .i64 a0] w fun e w' => e = .returned (.bool r) ∧ Drawn0 w w' := by
  have H : (if a0 ≥ 0 then (some (decide (a0 ≤ 13))) else (some false)) = some r := h
  clear h
  by_cases c2 : a0 ≥ 0
  · rw [if_pos c2] at H
    have c2b0 : decide (0 ≤ a0) = true := decide_eq_true c2
    clear c2
    obtain rfl := Option.some.inj H
    go_enter Try.func16, Try.ntmps16
    go_wp2
    go_ret
    exact ⟨by first | rfl | (simp; done) | (simp [*]; done), by repeat (first | exact Drawn0.refl _ | apply Drawn0.step)⟩
  · rw [if_neg c2] at H
    have c2b0 : decide (0 ≤ a0) = false := decide_eq_false c2
    clear c2
    obtain rfl := Option.some.inj H
    go_enter Try.func16, Try.ntmps16
    go_wp2
    go_ret
    exact ⟨by first | rfl | (simp; done) | (simp [*]; done), by repeat (first | exact Drawn0.refl _ | apply Drawn0.step)⟩

/-! ### req_Kind_Remote: function 17 -/
mutual
def req_Kind_Remote.j0 : Nat → Int → Bool → Option (Bool)
  | 0, _, _ => none
  | k + 1, x3, x4 => if x4 = true then (some true) else (if x3 = 6 then (req_Kind_Remote.j1 k (x3 == 6)) else (if x3 = 12 then (req_Kind_Remote.j1 k (x3 == 12)) else (req_Kind_Remote.j1 k (x3 == 13))))
def req_Kind_Remote.j1 : Nat → Bool → Option (Bool)
  | 0, _ => none
  | k + 1, x7 => if x7 = true then (some true) else (some false)
end
def req_Kind_Remote.f (k : Nat) (a0 : Int) : Option (Bool) := if a0 = 2 then (req_Kind_Remote.j0 k a0 (a0 == 2)) else (req_Kind_Remote.j0 k a0 (a0 == 5))
theorem req_Kind_Remote.mono_l : ∀ k, (∀ y0 y1, LeO (req_Kind_Remote.j0 k y0 y1) (req_Kind_Remote.j0 (k + 1) y0 y1)) ∧ (∀ y0, LeO (req_Kind_Remote.j1 k y0) (req_Kind_Remote.j1 (k + 1) y0))
  | 0 => ⟨fun _ _ r h => by simp [req_Kind_Remote.j0] at h, fun _ r h => by simp [req_Kind_Remote.j1] at h⟩
  | k + 1 => by
    obtain ⟨ih0, ih1⟩ := req_Kind_Remote.mono_l k
    refine ⟨?_, ?_⟩
    · intro y0 y1
      unfold req_Kind_Remote.j0
      repeat' first
      | (with_reducible exact ih0 _ _)
      | (with_reducible exact ih1 _)
      | (with_reducible exact LeO.refl _)
      | (with_reducible exact LeO.none _)
      | (with_reducible refine LeO.ite ?_ ?_)
      | (with_reducible refine LeO.bind ?_ (fun _ => ?_))
      | exact ih0 _ _
      | exact ih1 _
      | exact LeO.none _
      | refine LeO.ite ?_ ?_
      | refine LeO.bind ?_ (fun _ => ?_)
    · intro y0
      unfold req_Kind_Remote.j1
      repeat' first
      | (with_reducible exact ih0 _ _)
      | (with_reducible exact ih1 _)
      | (with_reducible exact LeO.refl _)
      | (with_reducible exact LeO.none _)
      | (with_reducible refine LeO.ite ?_ ?_)
      | (with_reducible refine LeO.bind ?_ (fun _ => ?_))
      | exact ih0 _ _
      | exact ih1 _
      | exact LeO.none _
      | refine LeO.ite ?_ ?_
      | refine LeO.bind ?_ (fun _ => ?_)
theorem req_Kind_Remote.mono : ∀ a0 k, LeO (req_Kind_Remote.f k a0) (req_Kind_Remote.f (k + 1) a0) := by
  intro a0 k
  obtain ⟨ih0, ih1⟩ := req_Kind_Remote.mono_l k
  unfold req_Kind_Remote.f
  repeat' first
      | (with_reducible exact ih0 _ _)
      | (with_reducible exact ih1 _)
      | (with_reducible exact LeO.refl _)
      | (with_reducible exact LeO.none _)
      | (with_reducible refine LeO.ite ?_ ?_)
      | (with_reducible refine LeO.bind ?_ (fun _ => ?_))
      | exact ih0 _ _
      | exact ih1 _
      | exact LeO.none _
      | refine LeO.ite ?_ ?_
      | refine LeO.bind ?_ (fun _ => ?_)
set_option maxHeartbeats 8000000 in
set_option maxRecDepth 100000 in
theorem req_Kind_Remote.calls (k : Nat) (a0 : Int) (r : Bool) (w : World) (h : req_Kind_Remote.f k a0 = some r) :
    Calls Try.prog 17 #[.int .i64 a0] w fun e w' => e = .returned (.bool r) ∧ Drawn0 w w' := by
  have H : (if a0 = 2 then (req_Kind_Remote.j0 k a0 (a0 == 2)) else (req_Kind_Remote.j0 k a0 (a0 == 5))) = some r := h
  clear h
  have HC2 := Aside0.mk H
  clear H
  go_enter Try.func17, Try.ntmps17
  go_upto_if 4 with (fail)
  go_cut [4] (fun v4 wc => ∃ (kq : Nat) (x4_1 : Bool), v4 = .bool x4_1 ∧ Aside0 (req_Kind_Remote.j0 kq a0 x4_1 = some r) ∧ Aside0 (kq ≤ k) ∧ Drawn0 w wc)
  case first =>
    have H := HC2.out
    clear HC2
    by_cases c3 : a0 = 2
    · rw [if_pos c3] at H
      have c3b0 : (a0 == 2) = true := beq_iff_eq.mpr c3
      have c3b1 : (a0 != 2) = false := bne_eq_false_iff_eq.mpr c3
      clear c3
      (first | rw [c3b0] | (simp only [i64_w, i32_w]; rw [c3b0]) | skip)
      have H' := Aside0.mk H
      clear H
      go_wp2
      go_meet
      case rel => exact ⟨_, ((a0 == 2)), (by first | rfl | (simp; done) | (simp [*]; done)), H', ⟨by first | omega | exact Nat.le_refl _⟩, by repeat (first | exact Drawn0.refl _ | apply Drawn0.step)⟩
    · rw [if_neg c3] at H
      have c3b0 : (a0 == 2) = false := beq_eq_false_iff_ne.mpr c3
      have c3b1 : (a0 != 2) = true := bne_iff_ne.mpr c3
      (first | rw [c3b0] | (simp only [i64_w, i32_w]; rw [c3b0]) | skip)
      have H' := Aside0.mk H
      clear H
      go_wp2
      go_meet
      case rel => exact ⟨_, ((a0 == 5)), (by first | rfl | (simp; done) | (simp [*]; done)), H', ⟨by first | omega | exact Nat.le_refl _⟩, by repeat (first | exact Drawn0.refl _ | apply Drawn0.step)⟩
  case rest =>
    clear HC2
    try clear c1
    try clear p2
    try clear c3
    try clear c3b0
    try clear c3b1
    obtain ⟨kq, x4_1, rfl, HA, HJ1, ⟨mc1, rfl⟩⟩ := hcut
    cases kq with
    | zero => exact absurd HA.out (by simp [req_Kind_Remote.j0])
    | succ kj1 =>
      have H := HA.out
      clear HA
      simp only [req_Kind_Remote.j0] at H
      by_cases c4 : x4_1 = true
      · subst c4
        have H1 : (some true) = some r := by rw [if_pos rfl] at H; exact H
        clear H
        have H := H1
        clear H1
        obtain rfl := Option.some.inj H
        go_wp2
        go_ret
        exact ⟨by first | rfl | (simp; done) | (simp [*]; done), by repeat (first | exact Drawn0.refl _ | apply Drawn0.step)⟩
      · replace c4 := Bool.eq_false_iff.mpr c4
        subst c4
        have H1 : (if a0 = 6 then (req_Kind_Remote.j1 kj1 (a0 == 6)) else (if a0 = 12 then (req_Kind_Remote.j1 kj1 (a0 == 12)) else (req_Kind_Remote.j1 kj1 (a0 == 13)))) = some r := by rw [if_neg (show ¬ (false = true) by decide)] at H; exact H
        clear H
        have H := H1
        clear H1
        have HC5 := Aside0.mk H
        clear H
        go_upto_if 7 with (fail)
        go_cut [7] (fun v7 wc => ∃ (kq : Nat) (x7_4 : Bool), v7 = .bool x7_4 ∧ Aside0 (req_Kind_Remote.j1 kq x7_4 = some r) ∧ Aside0 (kq ≤ kj1) ∧ Drawn0 w wc)
        case first =>
          have H := HC5.out
          clear HC5
          by_cases c6 : a0 = 6
          · rw [if_pos c6] at H
            have c6b0 : (a0 == 6) = true := beq_iff_eq.mpr c6
            have c6b1 : (a0 != 6) = false := bne_eq_false_iff_eq.mpr c6
            clear c6
            (first | rw [c6b0] | (simp only [i64_w, i32_w]; rw [c6b0]) | skip)
            have H' := Aside0.mk H
            clear H
            go_wp2
            go_meet
            case rel => exact ⟨_, ((a0 == 6)), (by first | rfl | (simp; done) | (simp [*]; done)), H', ⟨by have := HJ1.out; first | omega | exact Nat.le_refl _⟩, by repeat (first | exact Drawn0.refl _ | apply Drawn0.step)⟩
          · rw [if_neg c6] at H
            have c6b0 : (a0 == 6) = false := beq_eq_false_iff_ne.mpr c6
            have c6b1 : (a0 != 6) = true := bne_iff_ne.mpr c6
            (first | rw [c6b0] | (simp only [i64_w, i32_w]; rw [c6b0]) | skip)
            by_cases c7 : a0 = 12
            · rw [if_pos c7] at H
              have c7b0 : (a0 == 12) = true := beq_iff_eq.mpr c7
              have c7b1 : (a0 != 12) = false := bne_eq_false_iff_eq.mpr c7
              clear c7
              have H' := Aside0.mk H
              clear H
              go_wp2
              go_meet
              case rel => exact ⟨_, ((a0 == 12)), (by first | rfl | (simp; done) | (simp [*]; done)), H', ⟨by have := HJ1.out; first | omega | exact Nat.le_refl _⟩, by repeat (first | exact Drawn0.refl _ | apply Drawn0.step)⟩
            · rw [if_neg c7] at H
              have c7b0 : (a0 == 12) = false := beq_eq_false_iff_ne.mpr c7
              have c7b1 : (a0 != 12) = true := bne_iff_ne.mpr c7
              have H' := Aside0.mk H
              clear H
              go_wp2
              go_meet
              case rel => exact ⟨_, ((a0 == 13)), (by first | rfl | (simp; done) | (simp [*]; done)), H', ⟨by have := HJ1.out; first | omega | exact Nat.le_refl _⟩, by repeat (first | exact Drawn0.refl _ | apply Drawn0.step)⟩
        case rest =>
          clear HC5
          try clear c1
          try clear p2
          try clear c3
          try clear c3b0
          try clear c3b1
          try clear c4
          try clear c6
          try clear c6b0
          try clear c6b1
          try clear c7
          try clear c7b0
          try clear c7b1
          try clear p2
          obtain ⟨kq, x7_4, rfl, HA, HJ4, ⟨mc4, rfl⟩⟩ := hcut
          cases kq with
          | zero => exact absurd HA.out (by simp [req_Kind_Remote.j1])
          | succ kj4 =>
            have H := HA.out
            clear HA
            simp only [req_Kind_Remote.j1] at H
            by_cases c8 : x7_4 = true
            · subst c8
              have H1 : (some true) = some r := by rw [if_pos rfl] at H; exact H
              clear H
              have H := H1
              clear H1
              obtain rfl := Option.some.inj H
              go_wp2
              go_ret
              exact ⟨by first | rfl | (simp; done) | (simp [*]; done), by repeat (first | exact Drawn0.refl _ | apply Drawn0.step)⟩
            · replace c8 := Bool.eq_false_iff.mpr c8
              subst c8
              have H1 : (some false) = some r := by rw [if_neg (show ¬ (false = true) by decide)] at H; exact H
              clear H
              have H := H1
              clear H1
              obtain rfl := Option.some.inj H
              go_wp2
              go_ret
              exact ⟨by first | rfl | (simp; done) | (simp [*]; done), by repeat (first | exact Drawn0.refl _ | apply Drawn0.step)⟩

/-! ### carouselref12_Words: function 38 -/
def carouselref12_Words.f  : Option (List ByteArray) := some (([(⟨#[99, 108, 101, 97, 114]⟩ : ByteArray), (⟨#[102, 115]⟩ : ByteArray), (⟨#[114, 101, 109, 111, 116, 101, 45, 102, 115]⟩ : ByteArray), (⟨#[115, 102]⟩ : ByteArray), (⟨#[99, 108, 101, 97, 114, 45, 115, 102]⟩ : ByteArray), (⟨#[114, 101, 109, 111, 116, 101, 45, 115, 102]⟩ : ByteArray), (⟨#[114, 101, 109, 111, 116, 101, 45, 109, 115]⟩ : ByteArray), (⟨#[109, 115]⟩ : ByteArray), (⟨#[114, 101, 115, 116, 45, 111, 118, 101, 114]⟩ : ByteArray), (⟨#[114, 101, 115, 116, 45, 114, 117, 110, 115]⟩ : ByteArray), (⟨#[98, 108, 111, 99, 107, 45, 111, 118, 101, 114]⟩ : ByteArray), (⟨#[98, 108, 111, 99, 107, 45, 114, 117, 110, 115]⟩ : ByteArray), (⟨#[114, 101, 109, 111, 116, 101, 45, 105, 100, 108, 101]⟩ : ByteArray), (⟨#[114, 101, 109, 111, 116, 101, 45, 110, 111, 110, 101]⟩ : ByteArray)] : List ByteArray))
set_option maxHeartbeats 8000000 in
set_option maxRecDepth 100000 in
theorem carouselref12_Words.calls  (r : List ByteArray) (w : World) (h : carouselref12_Words.f  = some r) :
    Calls Try.prog 38 #[] w fun e w' => ∃ v0_ : Value, e = .returned (v0_) ∧ Kd.R Kd.string 9 w' w.heap.size (fun _ => True) v0_ r ∧ Below w.heap.size w w' := by
  have HB := Aside0.mk (Below.refl w.heap.size w)
  have H : (some (([(⟨#[99, 108, 101, 97, 114]⟩ : ByteArray), (⟨#[102, 115]⟩ : ByteArray), (⟨#[114, 101, 109, 111, 116, 101, 45, 102, 115]⟩ : ByteArray), (⟨#[115, 102]⟩ : ByteArray), (⟨#[99, 108, 101, 97, 114, 45, 115, 102]⟩ : ByteArray), (⟨#[114, 101, 109, 111, 116, 101, 45, 115, 102]⟩ : ByteArray), (⟨#[114, 101, 109, 111, 116, 101, 45, 109, 115]⟩ : ByteArray), (⟨#[109, 115]⟩ : ByteArray), (⟨#[114, 101, 115, 116, 45, 111, 118, 101, 114]⟩ : ByteArray), (⟨#[114, 101, 115, 116, 45, 114, 117, 110, 115]⟩ : ByteArray), (⟨#[98, 108, 111, 99, 107, 45, 111, 118, 101, 114]⟩ : ByteArray), (⟨#[98, 108, 111, 99, 107, 45, 114, 117, 110, 115]⟩ : ByteArray), (⟨#[114, 101, 109, 111, 116, 101, 45, 105, 100, 108, 101]⟩ : ByteArray), (⟨#[114, 101, 109, 111, 116, 101, 45, 110, 111, 110, 101]⟩ : ByteArray)] : List ByteArray))) = some r := h
  clear h
  obtain ⟨y178, hy178⟩ : ∃ y_ : List ByteArray, y_ = (([(⟨#[99, 108, 101, 97, 114]⟩ : ByteArray), (⟨#[102, 115]⟩ : ByteArray), (⟨#[114, 101, 109, 111, 116, 101, 45, 102, 115]⟩ : ByteArray), (⟨#[115, 102]⟩ : ByteArray), (⟨#[99, 108, 101, 97, 114, 45, 115, 102]⟩ : ByteArray), (⟨#[114, 101, 109, 111, 116, 101, 45, 115, 102]⟩ : ByteArray), (⟨#[114, 101, 109, 111, 116, 101, 45, 109, 115]⟩ : ByteArray), (⟨#[109, 115]⟩ : ByteArray), (⟨#[114, 101, 115, 116, 45, 111, 118, 101, 114]⟩ : ByteArray), (⟨#[114, 101, 115, 116, 45, 114, 117, 110, 115]⟩ : ByteArray), (⟨#[98, 108, 111, 99, 107, 45, 111, 118, 101, 114]⟩ : ByteArray), (⟨#[98, 108, 111, 99, 107, 45, 114, 117, 110, 115]⟩ : ByteArray), (⟨#[114, 101, 109, 111, 116, 101, 45, 105, 100, 108, 101]⟩ : ByteArray), (⟨#[114, 101, 109, 111, 116, 101, 45, 110, 111, 110, 101]⟩ : ByteArray)] : List ByteArray)) := ⟨_, rfl⟩
  replace H : (some y178) = some r := by first | (rw [hy178]; with_reducible exact H) | (have H2_ := (Option.bind_some _ _).symm.trans H; rw [hy178]; with_reducible exact H2_) | (have H2_ := (Option.bind_some _ _).symm.trans H; with_reducible exact H2_) | with_reducible exact H | (rw [hy178]; exact H) | exact H
  have Ny178 := Aside0.mk hy178
  clear hy178
  obtain rfl := Option.some.inj H
  go_enter Try.func38, Try.ntmps38
  go_wp2_with (first | ((with_reducible refine gate_dst (N := 1) rfl ?_); refine Kd.R_lit Kd.string _ 9 ?hg (N := 1) ?hd (xs := ([(⟨#[99, 108, 101, 97, 114]⟩ : ByteArray), (⟨#[102, 115]⟩ : ByteArray), (⟨#[114, 101, 109, 111, 116, 101, 45, 102, 115]⟩ : ByteArray), (⟨#[115, 102]⟩ : ByteArray), (⟨#[99, 108, 101, 97, 114, 45, 115, 102]⟩ : ByteArray), (⟨#[114, 101, 109, 111, 116, 101, 45, 115, 102]⟩ : ByteArray), (⟨#[114, 101, 109, 111, 116, 101, 45, 109, 115]⟩ : ByteArray), (⟨#[109, 115]⟩ : ByteArray), (⟨#[114, 101, 115, 116, 45, 111, 118, 101, 114]⟩ : ByteArray), (⟨#[114, 101, 115, 116, 45, 114, 117, 110, 115]⟩ : ByteArray), (⟨#[98, 108, 111, 99, 107, 45, 111, 118, 101, 114]⟩ : ByteArray), (⟨#[98, 108, 111, 99, 107, 45, 114, 117, 110, 115]⟩ : ByteArray), (⟨#[114, 101, 109, 111, 116, 101, 45, 105, 100, 108, 101]⟩ : ByteArray), (⟨#[114, 101, 109, 111, 116, 101, 45, 110, 111, 110, 101]⟩ : ByteArray)] : List ByteArray)) (inner := [.string (⟨#[99, 108, 101, 97, 114]⟩ : ByteArray), .string (⟨#[102, 115]⟩ : ByteArray), .string (⟨#[114, 101, 109, 111, 116, 101, 45, 102, 115]⟩ : ByteArray), .string (⟨#[115, 102]⟩ : ByteArray), .string (⟨#[99, 108, 101, 97, 114, 45, 115, 102]⟩ : ByteArray), .string (⟨#[114, 101, 109, 111, 116, 101, 45, 115, 102]⟩ : ByteArray), .string (⟨#[114, 101, 109, 111, 116, 101, 45, 109, 115]⟩ : ByteArray), .string (⟨#[109, 115]⟩ : ByteArray), .string (⟨#[114, 101, 115, 116, 45, 111, 118, 101, 114]⟩ : ByteArray), .string (⟨#[114, 101, 115, 116, 45, 114, 117, 110, 115]⟩ : ByteArray), .string (⟨#[98, 108, 111, 99, 107, 45, 111, 118, 101, 114]⟩ : ByteArray), .string (⟨#[98, 108, 111, 99, 107, 45, 114, 117, 110, 115]⟩ : ByteArray), .string (⟨#[114, 101, 109, 111, 116, 101, 45, 105, 100, 108, 101]⟩ : ByteArray), .string (⟨#[114, 101, 109, 111, 116, 101, 45, 110, 111, 110, 101]⟩ : ByteArray)]) (ok := fun _ => True) (okp := fun _ => True) ?hr ?hp (fun _ hk => hk) trivial (Below.refl _ _) (Nat.le_refl _) (by simp) ?_; (case hd => rfl); (case hg => rfl); (case hr => first | (go_simp; done) | (go_simp; rfl)); (case hp => exact (Reps.one (show Kd.M Kd.string _ _ _ (⟨#[99, 108, 101, 97, 114]⟩ : ByteArray) [.string (⟨#[99, 108, 101, 97, 114]⟩ : ByteArray)] from rfl) (Reps.one (show Kd.M Kd.string _ _ _ (⟨#[102, 115]⟩ : ByteArray) [.string (⟨#[102, 115]⟩ : ByteArray)] from rfl) (Reps.one (show Kd.M Kd.string _ _ _ (⟨#[114, 101, 109, 111, 116, 101, 45, 102, 115]⟩ : ByteArray) [.string (⟨#[114, 101, 109, 111, 116, 101, 45, 102, 115]⟩ : ByteArray)] from rfl) (Reps.one (show Kd.M Kd.string _ _ _ (⟨#[115, 102]⟩ : ByteArray) [.string (⟨#[115, 102]⟩ : ByteArray)] from rfl) (Reps.one (show Kd.M Kd.string _ _ _ (⟨#[99, 108, 101, 97, 114, 45, 115, 102]⟩ : ByteArray) [.string (⟨#[99, 108, 101, 97, 114, 45, 115, 102]⟩ : ByteArray)] from rfl) (Reps.one (show Kd.M Kd.string _ _ _ (⟨#[114, 101, 109, 111, 116, 101, 45, 115, 102]⟩ : ByteArray) [.string (⟨#[114, 101, 109, 111, 116, 101, 45, 115, 102]⟩ : ByteArray)] from rfl) (Reps.one (show Kd.M Kd.string _ _ _ (⟨#[114, 101, 109, 111, 116, 101, 45, 109, 115]⟩ : ByteArray) [.string (⟨#[114, 101, 109, 111, 116, 101, 45, 109, 115]⟩ : ByteArray)] from rfl) (Reps.one (show Kd.M Kd.string _ _ _ (⟨#[109, 115]⟩ : ByteArray) [.string (⟨#[109, 115]⟩ : ByteArray)] from rfl) (Reps.one (show Kd.M Kd.string _ _ _ (⟨#[114, 101, 115, 116, 45, 111, 118, 101, 114]⟩ : ByteArray) [.string (⟨#[114, 101, 115, 116, 45, 111, 118, 101, 114]⟩ : ByteArray)] from rfl) (Reps.one (show Kd.M Kd.string _ _ _ (⟨#[114, 101, 115, 116, 45, 114, 117, 110, 115]⟩ : ByteArray) [.string (⟨#[114, 101, 115, 116, 45, 114, 117, 110, 115]⟩ : ByteArray)] from rfl) (Reps.one (show Kd.M Kd.string _ _ _ (⟨#[98, 108, 111, 99, 107, 45, 111, 118, 101, 114]⟩ : ByteArray) [.string (⟨#[98, 108, 111, 99, 107, 45, 111, 118, 101, 114]⟩ : ByteArray)] from rfl) (Reps.one (show Kd.M Kd.string _ _ _ (⟨#[98, 108, 111, 99, 107, 45, 114, 117, 110, 115]⟩ : ByteArray) [.string (⟨#[98, 108, 111, 99, 107, 45, 114, 117, 110, 115]⟩ : ByteArray)] from rfl) (Reps.one (show Kd.M Kd.string _ _ _ (⟨#[114, 101, 109, 111, 116, 101, 45, 105, 100, 108, 101]⟩ : ByteArray) [.string (⟨#[114, 101, 109, 111, 116, 101, 45, 105, 100, 108, 101]⟩ : ByteArray)] from rfl) (Reps.one (show Kd.M Kd.string _ _ _ (⟨#[114, 101, 109, 111, 116, 101, 45, 110, 111, 110, 101]⟩ : ByteArray) [.string (⟨#[114, 101, 109, 111, 116, 101, 45, 110, 111, 110, 101]⟩ : ByteArray)] from rfl) (Reps.none _ _)))))))))))))))); intro v179 w1 ho2 hb hg_ hnew_; clear hg_ hnew_; (first | rw [← Ny178.out] at ho2 | (simp only [Int.reduceToNat] at ho2; rw [← Ny178.out] at ho2)); have n0_ := Aside0.mk (Kd.R_lower ho2 (below_size (by repeat (first | (with_reducible first | exact HB.out | apply below_alloc | apply pw_below_drewN | apply below_drew1) | exact HB.out)))); have n1_ := Aside0.mk (below_step (by repeat (first | (with_reducible first | exact HB.out | apply below_alloc | apply pw_below_drewN | apply below_drew1) | exact HB.out)) hb); clear HB; have HO180 := n0_; have HB := n1_; clear n0_ n1_; clear hb ho2))
  go_ret
  exact ⟨_, by first | rfl | (simp [errW_none, errW_some] <;> rfl) | (simp [*, errW_none, errW_some] <;> rfl), by (with_reducible repeat (first | apply Kd.R_alloc | apply Kd.R_drewN | apply Kd.R_drew)); exact HO180.out, by repeat (first | (with_reducible first | exact HB.out | apply below_alloc | apply pw_below_drewN | apply below_drew1) | exact HB.out)⟩

/-! ### carouselref12_Word: function 20 -/
def carouselref12_Word.f (a0 : Int) : Option (ByteArray) := (carouselref12_May.f a0).bind fun t181 => (if t181 = true then ((carouselref12_Words.f).bind fun t182 => (if 0 ≤ a0 then (if a0 < (t182.length : Int) then (some (rdOf ByteArray.empty t182 a0)) else (none)) else (none))) else (some (⟨#[110, 111, 110, 101]⟩ : ByteArray)))
set_option maxHeartbeats 8000000 in
set_option maxRecDepth 100000 in
theorem carouselref12_Word.calls (a0 : Int) (r : ByteArray) (w : World) (h : carouselref12_Word.f a0 = some r) :
    Calls Try.prog 20 #[.int .i64 a0] w fun e w' => e = .returned (.string r) ∧ Below w.heap.size w w' := by
  have HB := Aside0.mk (Below.refl w.heap.size w)
  have H : ((carouselref12_May.f a0).bind fun t181 => (if t181 = true then ((carouselref12_Words.f).bind fun t182 => (if 0 ≤ a0 then (if a0 < (t182.length : Int) then (some (rdOf ByteArray.empty t182 a0)) else (none)) else (none))) else (some (⟨#[110, 111, 110, 101]⟩ : ByteArray)))) = some r := h
  clear h
  replace H := Option.bind_eq_some_iff.mp H
  obtain ⟨t181, A20, H⟩ := H
  replace H : (if t181 = true then ((carouselref12_Words.f).bind fun t182 => (if 0 ≤ a0 then (if a0 < (t182.length : Int) then (some (rdOf ByteArray.empty t182 a0)) else (none)) else (none))) else (some (⟨#[110, 111, 110, 101]⟩ : ByteArray))) = some r := H
  have A2 := Aside0.mk A20
  clear A20
  by_cases c3 : t181 = true
  · subst c3
    have H1 : ((carouselref12_Words.f).bind fun t182 => (if 0 ≤ a0 then (if a0 < (t182.length : Int) then (some (rdOf ByteArray.empty t182 a0)) else (none)) else (none))) = some r := by rw [if_pos rfl] at H; exact H
    clear H
    have H := H1
    clear H1
    replace H := Option.bind_eq_some_iff.mp H
    obtain ⟨t182, A40, H⟩ := H
    replace H : (if 0 ≤ a0 then (if a0 < (t182.length : Int) then (some (rdOf ByteArray.empty t182 a0)) else (none)) else (none)) = some r := H
    have A4 := Aside0.mk A40
    clear A40
    by_cases c5 : 0 ≤ a0
    · rw [if_pos c5] at H
      have c5b0 : decide (0 ≤ a0) = true := decide_eq_true c5
      clear c5
      by_cases c6 : a0 < (t182.length : Int)
      · rw [if_pos c6] at H
        have c6b0 : decide (a0 < (t182.length : Int)) = true := decide_eq_true c6
        clear c6
        obtain rfl := Option.some.inj H
        go_enter Try.func20, Try.ntmps20
        go_wp2_with (first | ((with_reducible refine gate_callee (f := 16) rfl ?_); refine goesL_ (some 4) rfl rfl Try.func16 (by kernel_rfl) rfl #[.int .i64 a0] rfl (by (try simp only [List.map_toArray, List.map_cons, List.map_nil]); first | done | rfl | (simp only [List.length_drop, List.length_take]; rfl)) ?_; (with_reducible refine (carouselref12_May.calls a0 true _ A2.out).mono ?_); rintro e w' ⟨rfl, ⟨nd, rfl⟩⟩; refine ⟨_, rfl, ?_⟩) | ((with_reducible refine gate_callee (f := 38) rfl ?_); refine goesL_ (some 6) rfl rfl Try.func38 (by kernel_rfl) rfl #[] rfl (by (try simp only [List.map_toArray, List.map_cons, List.map_nil]); first | done | rfl | (simp only [List.length_drop, List.length_take]; rfl)) ?_; (with_reducible refine (carouselref12_Words.calls  t182 _ A4.out).mono ?_); rintro e w7 ⟨v183, rfl, ho0, hb⟩; refine ⟨_, rfl, ?_⟩; have n0_ := Aside0.mk (Kd.R_lower ho0 (below_size (by repeat (first | (with_reducible first | exact HB.out | apply below_alloc | apply pw_below_drewN | apply below_drew1) | exact HB.out)))); have n1_ := Aside0.mk (below_step (by repeat (first | (with_reducible first | exact HB.out | apply below_alloc | apply pw_below_drewN | apply below_drew1) | exact HB.out)) hb); clear HB; have HO184 := n0_; have HB := n1_; clear n0_ n1_; (try clear hb); (try clear hb2); (try clear hk); (try clear hi); (try clear ho0); obtain ⟨Ao8, co8, eo8⟩ := Kd.R_slice HO184.out; subst eo8; have p185 : 0 ≤ (a0 : Int) := of_decide_eq_true (by first | (with_reducible assumption) | assumption); have q185 : a0 < (t182.length : Int) := of_decide_eq_true (by first | (with_reducible assumption) | assumption); obtain ⟨ad185, e185, hx185_0⟩ := Kd.at_string (Kd.R_reads' HO184.out).2.2 a0 p185 q185; cases e185; replace p185 := eq_true p185; replace q185 := eq_true q185))
        go_ret
        exact ⟨by first | rfl | (simp [errW_none, errW_some] <;> rfl) | (simp [*, errW_none, errW_some] <;> rfl), by repeat (first | (with_reducible first | exact HB.out | apply below_alloc | apply pw_below_drewN | apply below_drew1) | exact HB.out)⟩
      · rw [if_neg c6] at H
        exact absurd H (by simp)
    · rw [if_neg c5] at H
      exact absurd H (by simp)
  · replace c3 := Bool.eq_false_iff.mpr c3
    subst c3
    have H1 : (some (⟨#[110, 111, 110, 101]⟩ : ByteArray)) = some r := by rw [if_neg (show ¬ (false = true) by decide)] at H; exact H
    clear H
    have H := H1
    clear H1
    obtain rfl := Option.some.inj H
    go_enter Try.func20, Try.ntmps20
    go_wp2_with (first | ((with_reducible refine gate_callee (f := 16) rfl ?_); refine goesL_ (some 4) rfl rfl Try.func16 (by kernel_rfl) rfl #[.int .i64 a0] rfl (by (try simp only [List.map_toArray, List.map_cons, List.map_nil]); first | done | rfl | (simp only [List.length_drop, List.length_take]; rfl)) ?_; (with_reducible refine (carouselref12_May.calls a0 false _ A2.out).mono ?_); rintro e w' ⟨rfl, ⟨nd, rfl⟩⟩; refine ⟨_, rfl, ?_⟩))
    go_ret
    exact ⟨by first | rfl | (simp [errW_none, errW_some] <;> rfl) | (simp [*, errW_none, errW_some] <;> rfl), by repeat (first | (with_reducible first | exact HB.out | apply below_alloc | apply pw_below_drewN | apply below_drew1) | exact HB.out)⟩

/-! ### carouselref12_Remote: function 18 -/
def carouselref12_Remote.f (a0 : Int) : Option (Bool) := (carouselref12_Word.f a0).bind fun t186 => (if (t186.size : Int) > 6 then (if 0 ≤ 6 then (if 6 ≤ (t186.size : Int) then (some ((t186.extract 0 6).toList == ([114, 101, 109, 111, 116, 101] : List UInt8))) else (none)) else (none)) else (some false))
set_option maxHeartbeats 8000000 in
set_option maxRecDepth 100000 in
theorem carouselref12_Remote.calls (a0 : Int) (r : Bool) (w : World) (h : carouselref12_Remote.f a0 = some r) :
    Calls Try.prog 18 #[.int .i64 a0] w fun e w' => e = .returned (.bool r) ∧ Below w.heap.size w w' := by
  have HB := Aside0.mk (Below.refl w.heap.size w)
  have H : ((carouselref12_Word.f a0).bind fun t186 => (if (t186.size : Int) > 6 then (if 0 ≤ 6 then (if 6 ≤ (t186.size : Int) then (some ((t186.extract 0 6).toList == ([114, 101, 109, 111, 116, 101] : List UInt8))) else (none)) else (none)) else (some false))) = some r := h
  clear h
  replace H := Option.bind_eq_some_iff.mp H
  obtain ⟨t186, A20, H⟩ := H
  replace H : (if (t186.size : Int) > 6 then (if 0 ≤ 6 then (if 6 ≤ (t186.size : Int) then (some ((t186.extract 0 6).toList == ([114, 101, 109, 111, 116, 101] : List UInt8))) else (none)) else (none)) else (some false)) = some r := H
  have A2 := Aside0.mk A20
  clear A20
  by_cases c3 : (t186.size : Int) > 6
  · rw [if_pos c3] at H
    have c3b0 : decide (6 < (t186.size : Int)) = true := decide_eq_true c3
    have c3b1 : decide (6 < t186.size) = true := decide_eq_true (by omega)
    clear c3
    by_cases c4 : 0 ≤ 6
    · rw [if_pos c4] at H
      have c4b0 := eq_true c4
      have c4b1 : decide (0 ≤ 6) = true := decide_eq_true c4
      clear c4
      by_cases c5 : 6 ≤ (t186.size : Int)
      · rw [if_pos c5] at H
        have c5b0 := eq_true c5
        have c5b1 : decide (6 ≤ (t186.size : Int)) = true := decide_eq_true c5
        clear c5
        obtain rfl := Option.some.inj H
        go_enter Try.func18, Try.ntmps18
        go_wp2_with (first | ((with_reducible refine gate_callee (f := 20) rfl ?_); refine goesL_ (some 5) rfl rfl Try.func20 (by kernel_rfl) rfl #[.int .i64 a0] rfl (by (try simp only [List.map_toArray, List.map_cons, List.map_nil]); first | done | rfl | (simp only [List.length_drop, List.length_take]; rfl)) ?_; (with_reducible refine (carouselref12_Word.calls a0 t186 _ A2.out).mono ?_); rintro e w6 ⟨rfl, hb⟩; refine ⟨_, rfl, ?_⟩; have n0_ := Aside0.mk (below_step (by repeat (first | (with_reducible first | exact HB.out | apply below_alloc | apply pw_below_drewN | apply below_drew1) | exact HB.out)) hb); clear HB; have HB := n0_; clear n0_; (try clear hb); (try clear hb2); (try clear hk); (try clear hi)))
        go_ret
        exact ⟨by first | rfl | (simp [errW_none, errW_some] <;> rfl) | (simp [*, errW_none, errW_some] <;> rfl), by repeat (first | (with_reducible first | exact HB.out | apply below_alloc | apply pw_below_drewN | apply below_drew1) | exact HB.out)⟩
      · rw [if_neg c5] at H
        exact absurd H (by simp)
    · rw [if_neg c4] at H
      exact absurd H (by simp)
  · rw [if_neg c3] at H
    have c3b0 : decide (6 < (t186.size : Int)) = false := decide_eq_false c3
    have c3b1 : decide (6 < t186.size) = false := decide_eq_false (by omega)
    clear c3
    obtain rfl := Option.some.inj H
    go_enter Try.func18, Try.ntmps18
    go_wp2_with (first | ((with_reducible refine gate_callee (f := 20) rfl ?_); refine goesL_ (some 5) rfl rfl Try.func20 (by kernel_rfl) rfl #[.int .i64 a0] rfl (by (try simp only [List.map_toArray, List.map_cons, List.map_nil]); first | done | rfl | (simp only [List.length_drop, List.length_take]; rfl)) ?_; (with_reducible refine (carouselref12_Word.calls a0 t186 _ A2.out).mono ?_); rintro e w7 ⟨rfl, hb⟩; refine ⟨_, rfl, ?_⟩; have n0_ := Aside0.mk (below_step (by repeat (first | (with_reducible first | exact HB.out | apply below_alloc | apply pw_below_drewN | apply below_drew1) | exact HB.out)) hb); clear HB; have HB := n0_; clear n0_; (try clear hb); (try clear hb2); (try clear hk); (try clear hi)))
    go_ret
    exact ⟨by first | rfl | (simp [errW_none, errW_some] <;> rfl) | (simp [*, errW_none, errW_some] <;> rfl), by repeat (first | (with_reducible first | exact HB.out | apply below_alloc | apply pw_below_drewN | apply below_drew1) | exact HB.out)⟩

/-! ### carouselref12_Above: function 22 -/
def carouselref12_Above.f (a0 : Int) (a1 : Int) : Option (Bool) := (carouselref12_May.f a0).bind fun t187 => (if t187 = true then ((carouselref12_May.f a1).bind fun t188 => (if t188 = true then (some (decide (a0 < a1))) else (some true))) else (some false))
set_option maxHeartbeats 8000000 in
set_option maxRecDepth 100000 in
theorem carouselref12_Above.calls (a0 : Int) (a1 : Int) (r : Bool) (w : World) (h : carouselref12_Above.f a0 a1 = some r) :
    Calls Try.prog 22 #[.int .i64 a0, .int .i64 a1] w fun e w' => e = .returned (.bool r) ∧ Drawn0 w w' := by
  have H : ((carouselref12_May.f a0).bind fun t187 => (if t187 = true then ((carouselref12_May.f a1).bind fun t188 => (if t188 = true then (some (decide (a0 < a1))) else (some true))) else (some false))) = some r := h
  clear h
  replace H := Option.bind_eq_some_iff.mp H
  obtain ⟨t187, A30, H⟩ := H
  replace H : (if t187 = true then ((carouselref12_May.f a1).bind fun t188 => (if t188 = true then (some (decide (a0 < a1))) else (some true))) else (some false)) = some r := H
  have A3 := Aside0.mk A30
  clear A30
  by_cases c4 : t187 = true
  · subst c4
    have H1 : ((carouselref12_May.f a1).bind fun t188 => (if t188 = true then (some (decide (a0 < a1))) else (some true))) = some r := by rw [if_pos rfl] at H; exact H
    clear H
    have H := H1
    clear H1
    replace H := Option.bind_eq_some_iff.mp H
    obtain ⟨t188, A50, H⟩ := H
    replace H : (if t188 = true then (some (decide (a0 < a1))) else (some true)) = some r := H
    have A5 := Aside0.mk A50
    clear A50
    by_cases c6 : t188 = true
    · subst c6
      have H1 : (some (decide (a0 < a1))) = some r := by rw [if_pos rfl] at H; exact H
      clear H
      have H := H1
      clear H1
      obtain rfl := Option.some.inj H
      go_enter Try.func22, Try.ntmps22
      go_wp2_with (first | ((with_reducible refine gate_callee (f := 16) rfl ?_); refine goesL_ (some 6) rfl rfl Try.func16 (by kernel_rfl) rfl #[.int .i64 a0] rfl (by (try simp only [List.map_toArray, List.map_cons, List.map_nil]); first | done | rfl | (simp only [List.length_drop, List.length_take]; rfl)) ?_; (with_reducible refine (carouselref12_May.calls a0 true _ A3.out).mono ?_); rintro e w' ⟨rfl, ⟨nd, rfl⟩⟩; refine ⟨_, rfl, ?_⟩) | ((with_reducible refine gate_callee (f := 16) rfl ?_); refine goesL_ (some 9) rfl rfl Try.func16 (by kernel_rfl) rfl #[.int .i64 a1] rfl (by (try simp only [List.map_toArray, List.map_cons, List.map_nil]); first | done | rfl | (simp only [List.length_drop, List.length_take]; rfl)) ?_; (with_reducible refine (carouselref12_May.calls a1 true _ A5.out).mono ?_); rintro e w' ⟨rfl, ⟨nd, rfl⟩⟩; refine ⟨_, rfl, ?_⟩))
      go_ret
      exact ⟨by first | rfl | (simp; done) | (simp [*]; done), by repeat (first | exact Drawn0.refl _ | apply Drawn0.step)⟩
    · replace c6 := Bool.eq_false_iff.mpr c6
      subst c6
      have H1 : (some true) = some r := by rw [if_neg (show ¬ (false = true) by decide)] at H; exact H
      clear H
      have H := H1
      clear H1
      obtain rfl := Option.some.inj H
      go_enter Try.func22, Try.ntmps22
      go_wp2_with (first | ((with_reducible refine gate_callee (f := 16) rfl ?_); refine goesL_ (some 6) rfl rfl Try.func16 (by kernel_rfl) rfl #[.int .i64 a0] rfl (by (try simp only [List.map_toArray, List.map_cons, List.map_nil]); first | done | rfl | (simp only [List.length_drop, List.length_take]; rfl)) ?_; (with_reducible refine (carouselref12_May.calls a0 true _ A3.out).mono ?_); rintro e w' ⟨rfl, ⟨nd, rfl⟩⟩; refine ⟨_, rfl, ?_⟩) | ((with_reducible refine gate_callee (f := 16) rfl ?_); refine goesL_ (some 9) rfl rfl Try.func16 (by kernel_rfl) rfl #[.int .i64 a1] rfl (by (try simp only [List.map_toArray, List.map_cons, List.map_nil]); first | done | rfl | (simp only [List.length_drop, List.length_take]; rfl)) ?_; (with_reducible refine (carouselref12_May.calls a1 false _ A5.out).mono ?_); rintro e w' ⟨rfl, ⟨nd, rfl⟩⟩; refine ⟨_, rfl, ?_⟩))
      go_ret
      exact ⟨by first | rfl | (simp; done) | (simp [*]; done), by repeat (first | exact Drawn0.refl _ | apply Drawn0.step)⟩
  · replace c4 := Bool.eq_false_iff.mpr c4
    subst c4
    have H1 : (some false) = some r := by rw [if_neg (show ¬ (false = true) by decide)] at H; exact H
    clear H
    have H := H1
    clear H1
    obtain rfl := Option.some.inj H
    go_enter Try.func22, Try.ntmps22
    go_wp2_with (first | ((with_reducible refine gate_callee (f := 16) rfl ?_); refine goesL_ (some 6) rfl rfl Try.func16 (by kernel_rfl) rfl #[.int .i64 a0] rfl (by (try simp only [List.map_toArray, List.map_cons, List.map_nil]); first | done | rfl | (simp only [List.length_drop, List.length_take]; rfl)) ?_; (with_reducible refine (carouselref12_May.calls a0 false _ A3.out).mono ?_); rintro e w' ⟨rfl, ⟨nd, rfl⟩⟩; refine ⟨_, rfl, ?_⟩))
    go_ret
    exact ⟨by first | rfl | (simp; done) | (simp [*]; done), by repeat (first | exact Drawn0.refl _ | apply Drawn0.step)⟩

end Go.Proofs.Ytmdaaphjndjakae.PReqKinds
