-- Written by a program of this work, after the translation.
import Derived.Test.YtmdaaphjndjakafPReqTellsx0
import Derived.Test.YtmdaaphjndjakafPReqTellsx1
import Derived.Test.YtmdaaphjndjakafPReqTellsx2
import Derived.Test.YtmdaaphjndjakafPReqTellsx3
namespace Go.Proofs.Ytmdaaphjndjakaf.PReqTells
open Go.RowKit Go.Proofs.YtmdaaphjndjakafW.PrintWords Go.Proofs.YtmdaaphjndjakafW.PrintLast Go.Proofs.YtmdaaphjndjakafW.PrintMore
attribute [local go_sem] max2_int min2_int max_two min_two max_three min_three max_four min_four   -- for this text's walks alone
set_option linter.unusedVariables false
set_option linter.unusedSimpArgs false

/-! ### carousellaw04_Awake: function 42 -/
def carousellaw04_Awake.f  : Option (Bool) := (oam_Close.f 7 1 40 0 0 (⟨#[]⟩ : ByteArray)).bind fun bt164 => ((carousellaw01_Awake.f).bind fun t166 => (if t166 = true then (if bt164.2 = 0 then (some (bt164.1.toList == ([225, 40, 0, 0, 0] : List UInt8))) else (some false)) else (some false)))
set_option maxHeartbeats 8000000 in
set_option maxRecDepth 100000 in
theorem carousellaw04_Awake.calls  (r : Bool) (w : World) (h : carousellaw04_Awake.f  = some r) :
    Calls Try.prog 42 #[] w fun e w' => e = .returned (.bool r) ∧ Below w.heap.size w w' := by
  have hu82 := Try.underlying82
  have HB := Aside0.mk (Below.refl w.heap.size w)
  have H : ((oam_Close.f 7 1 40 0 0 (⟨#[]⟩ : ByteArray)).bind fun bt164 => ((carousellaw01_Awake.f).bind fun t166 => (if t166 = true then (if bt164.2 = 0 then (some (bt164.1.toList == ([225, 40, 0, 0, 0] : List UInt8))) else (some false)) else (some false)))) = some r := h
  clear h
  replace H := Option.bind_eq_some_iff.mp H
  obtain ⟨⟨t164, t165⟩, A10, H⟩ := H
  replace H : ((carousellaw01_Awake.f).bind fun t166 => (if t166 = true then (if t165 = 0 then (some (t164.toList == ([225, 40, 0, 0, 0] : List UInt8))) else (some false)) else (some false))) = some r := H
  have A1 := Aside0.mk A10
  clear A10
  replace H := Option.bind_eq_some_iff.mp H
  obtain ⟨t166, A20, H⟩ := H
  replace H : (if t166 = true then (if t165 = 0 then (some (t164.toList == ([225, 40, 0, 0, 0] : List UInt8))) else (some false)) else (some false)) = some r := H
  have A2 := Aside0.mk A20
  clear A20
  by_cases c3 : t166 = true
  · subst c3
    have H1 : (if t165 = 0 then (some (t164.toList == ([225, 40, 0, 0, 0] : List UInt8))) else (some false)) = some r := by rw [if_pos rfl] at H; exact H
    clear H
    have H := H1
    clear H1
    by_cases c4 : t165 = 0
    · rw [if_pos c4] at H
      have c4b0 : (t165 == 0) = true := beq_iff_eq.mpr c4
      have c4b1 : (t165 != 0) = false := bne_eq_false_iff_eq.mpr c4
      clear c4
      obtain rfl := Option.some.inj H
      go_enter Try.func42, Try.ntmps42
      go_wp2_with (first | ((with_reducible refine gate_callee (f := 52) rfl ?_); refine goesL_ (some 5) rfl rfl Try.func52 (by kernel_rfl) rfl #[.agg #[.int .u8 7, .int .u8 1, .int .u8 40, .int .u8 0, .int .u8 0], .string (⟨#[]⟩ : ByteArray)] rfl (by (try simp only [List.map_toArray, List.map_cons, List.map_nil]); first | done | rfl | (simp only [List.length_drop, List.length_take]; rfl)) ?_; (with_reducible refine (oam_Close.calls 7 1 40 0 0 (⟨#[]⟩ : ByteArray) t164 t165 _ A1.out).mono ?_); rintro e w5 ⟨rfl, hb⟩; refine ⟨_, rfl, ?_⟩; have n0_ := Aside0.mk (below_step (by repeat (first | (with_reducible first | exact HB.out | apply below_alloc | apply pw_below_drewN | apply below_drew1) | exact HB.out)) hb); clear HB; have HB := n0_; clear n0_; (try clear hb); (try clear hb2); (try clear hk); (try clear hi)) | ((with_reducible refine gate_callee (f := 36) rfl ?_); refine goesL_ (some 8) rfl rfl Try.func36 (by kernel_rfl) rfl #[] rfl (by (try simp only [List.map_toArray, List.map_cons, List.map_nil]); first | done | rfl | (simp only [List.length_drop, List.length_take]; rfl)) ?_; (with_reducible refine (carousellaw01_Awake.calls  true _ A2.out).mono ?_); rintro e w6 ⟨rfl, hb⟩; refine ⟨_, rfl, ?_⟩; have n0_ := Aside0.mk (below_step (by repeat (first | (with_reducible first | exact HB.out | apply below_alloc | apply pw_below_drewN | apply below_drew1) | exact HB.out)) hb); clear HB; have HB := n0_; clear n0_; (try clear hb); (try clear hb2); (try clear hk); (try clear hi)))
      go_ret
      exact ⟨by first | rfl | (simp [errW_none, errW_some] <;> rfl) | (simp [*, errW_none, errW_some] <;> rfl), by repeat (first | (with_reducible first | exact HB.out | apply below_alloc | apply pw_below_drewN | apply below_drew1) | exact HB.out)⟩
    · rw [if_neg c4] at H
      have c4b0 : (t165 == 0) = false := beq_eq_false_iff_ne.mpr c4
      have c4b1 : (t165 != 0) = true := bne_iff_ne.mpr c4
      obtain rfl := Option.some.inj H
      go_enter Try.func42, Try.ntmps42
      go_wp2_with (first | ((with_reducible refine gate_callee (f := 52) rfl ?_); refine goesL_ (some 5) rfl rfl Try.func52 (by kernel_rfl) rfl #[.agg #[.int .u8 7, .int .u8 1, .int .u8 40, .int .u8 0, .int .u8 0], .string (⟨#[]⟩ : ByteArray)] rfl (by (try simp only [List.map_toArray, List.map_cons, List.map_nil]); first | done | rfl | (simp only [List.length_drop, List.length_take]; rfl)) ?_; (with_reducible refine (oam_Close.calls 7 1 40 0 0 (⟨#[]⟩ : ByteArray) t164 t165 _ A1.out).mono ?_); rintro e w7 ⟨rfl, hb⟩; refine ⟨_, rfl, ?_⟩; have n0_ := Aside0.mk (below_step (by repeat (first | (with_reducible first | exact HB.out | apply below_alloc | apply pw_below_drewN | apply below_drew1) | exact HB.out)) hb); clear HB; have HB := n0_; clear n0_; (try clear hb); (try clear hb2); (try clear hk); (try clear hi)) | ((with_reducible refine gate_callee (f := 36) rfl ?_); refine goesL_ (some 8) rfl rfl Try.func36 (by kernel_rfl) rfl #[] rfl (by (try simp only [List.map_toArray, List.map_cons, List.map_nil]); first | done | rfl | (simp only [List.length_drop, List.length_take]; rfl)) ?_; (with_reducible refine (carousellaw01_Awake.calls  true _ A2.out).mono ?_); rintro e w8 ⟨rfl, hb⟩; refine ⟨_, rfl, ?_⟩; have n0_ := Aside0.mk (below_step (by repeat (first | (with_reducible first | exact HB.out | apply below_alloc | apply pw_below_drewN | apply below_drew1) | exact HB.out)) hb); clear HB; have HB := n0_; clear n0_; (try clear hb); (try clear hb2); (try clear hk); (try clear hi)))
      go_ret
      exact ⟨by first | rfl | (simp [errW_none, errW_some] <;> rfl) | (simp [*, errW_none, errW_some] <;> rfl), by repeat (first | (with_reducible first | exact HB.out | apply below_alloc | apply pw_below_drewN | apply below_drew1) | exact HB.out)⟩
  · replace c3 := Bool.eq_false_iff.mpr c3
    subst c3
    have H1 : (some false) = some r := by rw [if_neg (show ¬ (false = true) by decide)] at H; exact H
    clear H
    have H := H1
    clear H1
    obtain rfl := Option.some.inj H
    go_enter Try.func42, Try.ntmps42
    go_wp2_with (first | ((with_reducible refine gate_callee (f := 52) rfl ?_); refine goesL_ (some 5) rfl rfl Try.func52 (by kernel_rfl) rfl #[.agg #[.int .u8 7, .int .u8 1, .int .u8 40, .int .u8 0, .int .u8 0], .string (⟨#[]⟩ : ByteArray)] rfl (by (try simp only [List.map_toArray, List.map_cons, List.map_nil]); first | done | rfl | (simp only [List.length_drop, List.length_take]; rfl)) ?_; (with_reducible refine (oam_Close.calls 7 1 40 0 0 (⟨#[]⟩ : ByteArray) t164 t165 _ A1.out).mono ?_); rintro e w9 ⟨rfl, hb⟩; refine ⟨_, rfl, ?_⟩; have n0_ := Aside0.mk (below_step (by repeat (first | (with_reducible first | exact HB.out | apply below_alloc | apply pw_below_drewN | apply below_drew1) | exact HB.out)) hb); clear HB; have HB := n0_; clear n0_; (try clear hb); (try clear hb2); (try clear hk); (try clear hi)) | ((with_reducible refine gate_callee (f := 36) rfl ?_); refine goesL_ (some 8) rfl rfl Try.func36 (by kernel_rfl) rfl #[] rfl (by (try simp only [List.map_toArray, List.map_cons, List.map_nil]); first | done | rfl | (simp only [List.length_drop, List.length_take]; rfl)) ?_; (with_reducible refine (carousellaw01_Awake.calls  false _ A2.out).mono ?_); rintro e w10 ⟨rfl, hb⟩; refine ⟨_, rfl, ?_⟩; have n0_ := Aside0.mk (below_step (by repeat (first | (with_reducible first | exact HB.out | apply below_alloc | apply pw_below_drewN | apply below_drew1) | exact HB.out)) hb); clear HB; have HB := n0_; clear n0_; (try clear hb); (try clear hb2); (try clear hk); (try clear hi)))
    go_ret
    exact ⟨by first | rfl | (simp [errW_none, errW_some] <;> rfl) | (simp [*, errW_none, errW_some] <;> rfl), by repeat (first | (with_reducible first | exact HB.out | apply below_alloc | apply pw_below_drewN | apply below_drew1) | exact HB.out)⟩

/-! ### carousellaw05_Awake: function 21 -/
def carousellaw05_Awake.f (k : Nat)  : Option (Bool) := (raps_Close.f k 0 true false false 2 7).bind fun bt167 => ((carousellaw02_Awake.f k).bind fun t169 => (if t169 = true then ((carousellaw04_Awake.f).bind fun t170 => (if t170 = true then (if bt167.2 = 0 then (if (bt167.1.size : Int) = 37 then (if 0 ≤ 12 then (if 12 ≤ (bt167.1.size : Int) then (some ((bt167.1.extract 0 12).toList == ([225, 40, 0, 32, 0, 128, 0, 0, 0, 0, 0, 2] : List UInt8))) else (none)) else (none)) else (some false)) else (some false)) else (some false))) else (some false)))
theorem carousellaw05_Awake.mono : ∀ k, LeO (carousellaw05_Awake.f k ) (carousellaw05_Awake.f (k + 1) ) := by
  intro  k
  unfold carousellaw05_Awake.f
  repeat' first
      | (with_reducible exact carousellaw02_Awake.mono _)
      | (with_reducible exact raps_Close.mono _ _ _ _ _ _ _)
      | (with_reducible exact LeO.refl _)
      | (with_reducible exact LeO.none _)
      | (with_reducible refine LeO.ite ?_ ?_)
      | (with_reducible refine LeO.bind ?_ (fun _ => ?_))
      | exact carousellaw02_Awake.mono _
      | exact raps_Close.mono _ _ _ _ _ _ _
      | exact LeO.none _
      | refine LeO.ite ?_ ?_
      | refine LeO.bind ?_ (fun _ => ?_)
set_option maxHeartbeats 8000000 in
set_option maxRecDepth 100000 in
theorem carousellaw05_Awake.calls (k : Nat)  (r : Bool) (w : World) (h : carousellaw05_Awake.f k  = some r) :
    Calls Try.prog 21 #[] w fun e w' => e = .returned (.bool r) ∧ Below w.heap.size w w' := by
  have hu26 := Try.underlying26
  have HB := Aside0.mk (Below.refl w.heap.size w)
  have H : ((raps_Close.f k 0 true false false 2 7).bind fun bt167 => ((carousellaw02_Awake.f k).bind fun t169 => (if t169 = true then ((carousellaw04_Awake.f).bind fun t170 => (if t170 = true then (if bt167.2 = 0 then (if (bt167.1.size : Int) = 37 then (if 0 ≤ 12 then (if 12 ≤ (bt167.1.size : Int) then (some ((bt167.1.extract 0 12).toList == ([225, 40, 0, 32, 0, 128, 0, 0, 0, 0, 0, 2] : List UInt8))) else (none)) else (none)) else (some false)) else (some false)) else (some false))) else (some false)))) = some r := h
  clear h
  replace H := Option.bind_eq_some_iff.mp H
  obtain ⟨⟨t167, t168⟩, A10, H⟩ := H
  replace H : ((carousellaw02_Awake.f k).bind fun t169 => (if t169 = true then ((carousellaw04_Awake.f).bind fun t170 => (if t170 = true then (if t168 = 0 then (if (t167.size : Int) = 37 then (if 0 ≤ 12 then (if 12 ≤ (t167.size : Int) then (some ((t167.extract 0 12).toList == ([225, 40, 0, 32, 0, 128, 0, 0, 0, 0, 0, 2] : List UInt8))) else (none)) else (none)) else (some false)) else (some false)) else (some false))) else (some false))) = some r := H
  have A1 := Aside0.mk A10
  clear A10
  replace H := Option.bind_eq_some_iff.mp H
  obtain ⟨t169, A20, H⟩ := H
  replace H : (if t169 = true then ((carousellaw04_Awake.f).bind fun t170 => (if t170 = true then (if t168 = 0 then (if (t167.size : Int) = 37 then (if 0 ≤ 12 then (if 12 ≤ (t167.size : Int) then (some ((t167.extract 0 12).toList == ([225, 40, 0, 32, 0, 128, 0, 0, 0, 0, 0, 2] : List UInt8))) else (none)) else (none)) else (some false)) else (some false)) else (some false))) else (some false)) = some r := H
  have A2 := Aside0.mk A20
  clear A20
  by_cases c3 : t169 = true
  · subst c3
    have H1 : ((carousellaw04_Awake.f).bind fun t170 => (if t170 = true then (if t168 = 0 then (if (t167.size : Int) = 37 then (if 0 ≤ 12 then (if 12 ≤ (t167.size : Int) then (some ((t167.extract 0 12).toList == ([225, 40, 0, 32, 0, 128, 0, 0, 0, 0, 0, 2] : List UInt8))) else (none)) else (none)) else (some false)) else (some false)) else (some false))) = some r := by rw [if_pos rfl] at H; exact H
    clear H
    have H := H1
    clear H1
    replace H := Option.bind_eq_some_iff.mp H
    obtain ⟨t170, A40, H⟩ := H
    replace H : (if t170 = true then (if t168 = 0 then (if (t167.size : Int) = 37 then (if 0 ≤ 12 then (if 12 ≤ (t167.size : Int) then (some ((t167.extract 0 12).toList == ([225, 40, 0, 32, 0, 128, 0, 0, 0, 0, 0, 2] : List UInt8))) else (none)) else (none)) else (some false)) else (some false)) else (some false)) = some r := H
    have A4 := Aside0.mk A40
    clear A40
    by_cases c5 : t170 = true
    · subst c5
      have H1 : (if t168 = 0 then (if (t167.size : Int) = 37 then (if 0 ≤ 12 then (if 12 ≤ (t167.size : Int) then (some ((t167.extract 0 12).toList == ([225, 40, 0, 32, 0, 128, 0, 0, 0, 0, 0, 2] : List UInt8))) else (none)) else (none)) else (some false)) else (some false)) = some r := by rw [if_pos rfl] at H; exact H
      clear H
      have H := H1
      clear H1
      by_cases c6 : t168 = 0
      · rw [if_pos c6] at H
        have c6b0 : (t168 == 0) = true := beq_iff_eq.mpr c6
        have c6b1 : (t168 != 0) = false := bne_eq_false_iff_eq.mpr c6
        clear c6
        by_cases c7 : (t167.size : Int) = 37
        · rw [if_pos c7] at H
          have c7b0 : ((t167.size : Int) == 37) = true := beq_iff_eq.mpr c7
          have c7b1 : ((t167.size : Int) != 37) = false := bne_eq_false_iff_eq.mpr c7
          clear c7
          by_cases c8 : 0 ≤ 12
          · rw [if_pos c8] at H
            have c8b0 := eq_true c8
            have c8b1 : decide (0 ≤ 12) = true := decide_eq_true c8
            clear c8
            by_cases c9 : 12 ≤ (t167.size : Int)
            · rw [if_pos c9] at H
              have c9b0 := eq_true c9
              have c9b1 : decide (12 ≤ (t167.size : Int)) = true := decide_eq_true c9
              clear c9
              obtain rfl := Option.some.inj H
              go_enter Try.func21, Try.ntmps21
              go_wp2_with (first | ((with_reducible refine gate_callee (f := 24) rfl ?_); refine goesL_ (some 5) rfl rfl Try.func24 (by kernel_rfl) rfl #[.agg #[.int .u8 0, .bool true, .bool false, .bool false, .int .u64 2], .int .u8 7] rfl (by (try simp only [List.map_toArray, List.map_cons, List.map_nil]); first | done | rfl | (simp only [List.length_drop, List.length_take]; rfl)) ?_; (with_reducible refine (raps_Close.calls k 0 true false false 2 7 t167 t168 _ A1.out).mono ?_); rintro e w10 ⟨rfl, hb⟩; refine ⟨_, rfl, ?_⟩; have n0_ := Aside0.mk (below_step (by repeat (first | (with_reducible first | exact HB.out | apply below_alloc | apply pw_below_drewN | apply below_drew1) | exact HB.out)) hb); clear HB; have HB := n0_; clear n0_; (try clear hb); (try clear hb2); (try clear hk); (try clear hi)) | ((with_reducible refine gate_callee (f := 15) rfl ?_); refine goesL_ (some 8) rfl rfl Try.func15 (by kernel_rfl) rfl #[] rfl (by (try simp only [List.map_toArray, List.map_cons, List.map_nil]); first | done | rfl | (simp only [List.length_drop, List.length_take]; rfl)) ?_; (with_reducible refine (carousellaw02_Awake.calls k  true _ A2.out).mono ?_); rintro e w11 ⟨rfl, hb⟩; refine ⟨_, rfl, ?_⟩; have n0_ := Aside0.mk (below_step (by repeat (first | (with_reducible first | exact HB.out | apply below_alloc | apply pw_below_drewN | apply below_drew1) | exact HB.out)) hb); clear HB; have HB := n0_; clear n0_; (try clear hb); (try clear hb2); (try clear hk); (try clear hi)) | (go_at_call 42; (with_reducible refine (carousellaw04_Awake.calls  true _ A4.out).mono ?_); rintro e w12 ⟨rfl, hb⟩; have n0_ := Aside0.mk (below_step (by repeat (first | (with_reducible first | exact HB.out | apply below_alloc | apply pw_below_drewN | apply below_drew1) | exact HB.out)) hb); clear HB; have HB := n0_; clear n0_; (try clear hb); (try clear hb2); (try clear hk); (try clear hi)))
              go_ret
              exact ⟨by first | rfl | (simp [errW_none, errW_some] <;> rfl) | (simp [*, errW_none, errW_some] <;> rfl), by repeat (first | (with_reducible first | exact HB.out | apply below_alloc | apply pw_below_drewN | apply below_drew1) | exact HB.out)⟩
            · rw [if_neg c9] at H
              exact absurd H (by simp)
          · rw [if_neg c8] at H
            exact absurd H (by simp)
        · rw [if_neg c7] at H
          have c7b0 : ((t167.size : Int) == 37) = false := beq_eq_false_iff_ne.mpr c7
          have c7b1 : ((t167.size : Int) != 37) = true := bne_iff_ne.mpr c7
          obtain rfl := Option.some.inj H
          go_enter Try.func21, Try.ntmps21
          go_wp2_with (first | ((with_reducible refine gate_callee (f := 24) rfl ?_); refine goesL_ (some 5) rfl rfl Try.func24 (by kernel_rfl) rfl #[.agg #[.int .u8 0, .bool true, .bool false, .bool false, .int .u64 2], .int .u8 7] rfl (by (try simp only [List.map_toArray, List.map_cons, List.map_nil]); first | done | rfl | (simp only [List.length_drop, List.length_take]; rfl)) ?_; (with_reducible refine (raps_Close.calls k 0 true false false 2 7 t167 t168 _ A1.out).mono ?_); rintro e w13 ⟨rfl, hb⟩; refine ⟨_, rfl, ?_⟩; have n0_ := Aside0.mk (below_step (by repeat (first | (with_reducible first | exact HB.out | apply below_alloc | apply pw_below_drewN | apply below_drew1) | exact HB.out)) hb); clear HB; have HB := n0_; clear n0_; (try clear hb); (try clear hb2); (try clear hk); (try clear hi)) | ((with_reducible refine gate_callee (f := 15) rfl ?_); refine goesL_ (some 8) rfl rfl Try.func15 (by kernel_rfl) rfl #[] rfl (by (try simp only [List.map_toArray, List.map_cons, List.map_nil]); first | done | rfl | (simp only [List.length_drop, List.length_take]; rfl)) ?_; (with_reducible refine (carousellaw02_Awake.calls k  true _ A2.out).mono ?_); rintro e w14 ⟨rfl, hb⟩; refine ⟨_, rfl, ?_⟩; have n0_ := Aside0.mk (below_step (by repeat (first | (with_reducible first | exact HB.out | apply below_alloc | apply pw_below_drewN | apply below_drew1) | exact HB.out)) hb); clear HB; have HB := n0_; clear n0_; (try clear hb); (try clear hb2); (try clear hk); (try clear hi)) | (go_at_call 42; (with_reducible refine (carousellaw04_Awake.calls  true _ A4.out).mono ?_); rintro e w15 ⟨rfl, hb⟩; have n0_ := Aside0.mk (below_step (by repeat (first | (with_reducible first | exact HB.out | apply below_alloc | apply pw_below_drewN | apply below_drew1) | exact HB.out)) hb); clear HB; have HB := n0_; clear n0_; (try clear hb); (try clear hb2); (try clear hk); (try clear hi)))
          go_ret
          exact ⟨by first | rfl | (simp [errW_none, errW_some] <;> rfl) | (simp [*, errW_none, errW_some] <;> rfl), by repeat (first | (with_reducible first | exact HB.out | apply below_alloc | apply pw_below_drewN | apply below_drew1) | exact HB.out)⟩
      · rw [if_neg c6] at H
        have c6b0 : (t168 == 0) = false := beq_eq_false_iff_ne.mpr c6
        have c6b1 : (t168 != 0) = true := bne_iff_ne.mpr c6
        obtain rfl := Option.some.inj H
        go_enter Try.func21, Try.ntmps21
        go_wp2_with (first | ((with_reducible refine gate_callee (f := 24) rfl ?_); refine goesL_ (some 5) rfl rfl Try.func24 (by kernel_rfl) rfl #[.agg #[.int .u8 0, .bool true, .bool false, .bool false, .int .u64 2], .int .u8 7] rfl (by (try simp only [List.map_toArray, List.map_cons, List.map_nil]); first | done | rfl | (simp only [List.length_drop, List.length_take]; rfl)) ?_; (with_reducible refine (raps_Close.calls k 0 true false false 2 7 t167 t168 _ A1.out).mono ?_); rintro e w16 ⟨rfl, hb⟩; refine ⟨_, rfl, ?_⟩; have n0_ := Aside0.mk (below_step (by repeat (first | (with_reducible first | exact HB.out | apply below_alloc | apply pw_below_drewN | apply below_drew1) | exact HB.out)) hb); clear HB; have HB := n0_; clear n0_; (try clear hb); (try clear hb2); (try clear hk); (try clear hi)) | ((with_reducible refine gate_callee (f := 15) rfl ?_); refine goesL_ (some 8) rfl rfl Try.func15 (by kernel_rfl) rfl #[] rfl (by (try simp only [List.map_toArray, List.map_cons, List.map_nil]); first | done | rfl | (simp only [List.length_drop, List.length_take]; rfl)) ?_; (with_reducible refine (carousellaw02_Awake.calls k  true _ A2.out).mono ?_); rintro e w17 ⟨rfl, hb⟩; refine ⟨_, rfl, ?_⟩; have n0_ := Aside0.mk (below_step (by repeat (first | (with_reducible first | exact HB.out | apply below_alloc | apply pw_below_drewN | apply below_drew1) | exact HB.out)) hb); clear HB; have HB := n0_; clear n0_; (try clear hb); (try clear hb2); (try clear hk); (try clear hi)) | (go_at_call 42; (with_reducible refine (carousellaw04_Awake.calls  true _ A4.out).mono ?_); rintro e w18 ⟨rfl, hb⟩; have n0_ := Aside0.mk (below_step (by repeat (first | (with_reducible first | exact HB.out | apply below_alloc | apply pw_below_drewN | apply below_drew1) | exact HB.out)) hb); clear HB; have HB := n0_; clear n0_; (try clear hb); (try clear hb2); (try clear hk); (try clear hi)))
        go_ret
        exact ⟨by first | rfl | (simp [errW_none, errW_some] <;> rfl) | (simp [*, errW_none, errW_some] <;> rfl), by repeat (first | (with_reducible first | exact HB.out | apply below_alloc | apply pw_below_drewN | apply below_drew1) | exact HB.out)⟩
    · replace c5 := Bool.eq_false_iff.mpr c5
      subst c5
      have H1 : (some false) = some r := by rw [if_neg (show ¬ (false = true) by decide)] at H; exact H
      clear H
      have H := H1
      clear H1
      obtain rfl := Option.some.inj H
      go_enter Try.func21, Try.ntmps21
      go_wp2_with (first | ((with_reducible refine gate_callee (f := 24) rfl ?_); refine goesL_ (some 5) rfl rfl Try.func24 (by kernel_rfl) rfl #[.agg #[.int .u8 0, .bool true, .bool false, .bool false, .int .u64 2], .int .u8 7] rfl (by (try simp only [List.map_toArray, List.map_cons, List.map_nil]); first | done | rfl | (simp only [List.length_drop, List.length_take]; rfl)) ?_; (with_reducible refine (raps_Close.calls k 0 true false false 2 7 t167 t168 _ A1.out).mono ?_); rintro e w19 ⟨rfl, hb⟩; refine ⟨_, rfl, ?_⟩; have n0_ := Aside0.mk (below_step (by repeat (first | (with_reducible first | exact HB.out | apply below_alloc | apply pw_below_drewN | apply below_drew1) | exact HB.out)) hb); clear HB; have HB := n0_; clear n0_; (try clear hb); (try clear hb2); (try clear hk); (try clear hi)) | ((with_reducible refine gate_callee (f := 15) rfl ?_); refine goesL_ (some 8) rfl rfl Try.func15 (by kernel_rfl) rfl #[] rfl (by (try simp only [List.map_toArray, List.map_cons, List.map_nil]); first | done | rfl | (simp only [List.length_drop, List.length_take]; rfl)) ?_; (with_reducible refine (carousellaw02_Awake.calls k  true _ A2.out).mono ?_); rintro e w20 ⟨rfl, hb⟩; refine ⟨_, rfl, ?_⟩; have n0_ := Aside0.mk (below_step (by repeat (first | (with_reducible first | exact HB.out | apply below_alloc | apply pw_below_drewN | apply below_drew1) | exact HB.out)) hb); clear HB; have HB := n0_; clear n0_; (try clear hb); (try clear hb2); (try clear hk); (try clear hi)) | (go_at_call 42; (with_reducible refine (carousellaw04_Awake.calls  false _ A4.out).mono ?_); rintro e w21 ⟨rfl, hb⟩; have n0_ := Aside0.mk (below_step (by repeat (first | (with_reducible first | exact HB.out | apply below_alloc | apply pw_below_drewN | apply below_drew1) | exact HB.out)) hb); clear HB; have HB := n0_; clear n0_; (try clear hb); (try clear hb2); (try clear hk); (try clear hi)))
      go_ret
      exact ⟨by first | rfl | (simp [errW_none, errW_some] <;> rfl) | (simp [*, errW_none, errW_some] <;> rfl), by repeat (first | (with_reducible first | exact HB.out | apply below_alloc | apply pw_below_drewN | apply below_drew1) | exact HB.out)⟩
  · replace c3 := Bool.eq_false_iff.mpr c3
    subst c3
    have H1 : (some false) = some r := by rw [if_neg (show ¬ (false = true) by decide)] at H; exact H
    clear H
    have H := H1
    clear H1
    obtain rfl := Option.some.inj H
    go_enter Try.func21, Try.ntmps21
    go_wp2_with (first | ((with_reducible refine gate_callee (f := 24) rfl ?_); refine goesL_ (some 5) rfl rfl Try.func24 (by kernel_rfl) rfl #[.agg #[.int .u8 0, .bool true, .bool false, .bool false, .int .u64 2], .int .u8 7] rfl (by (try simp only [List.map_toArray, List.map_cons, List.map_nil]); first | done | rfl | (simp only [List.length_drop, List.length_take]; rfl)) ?_; (with_reducible refine (raps_Close.calls k 0 true false false 2 7 t167 t168 _ A1.out).mono ?_); rintro e w22 ⟨rfl, hb⟩; refine ⟨_, rfl, ?_⟩; have n0_ := Aside0.mk (below_step (by repeat (first | (with_reducible first | exact HB.out | apply below_alloc | apply pw_below_drewN | apply below_drew1) | exact HB.out)) hb); clear HB; have HB := n0_; clear n0_; (try clear hb); (try clear hb2); (try clear hk); (try clear hi)) | ((with_reducible refine gate_callee (f := 15) rfl ?_); refine goesL_ (some 8) rfl rfl Try.func15 (by kernel_rfl) rfl #[] rfl (by (try simp only [List.map_toArray, List.map_cons, List.map_nil]); first | done | rfl | (simp only [List.length_drop, List.length_take]; rfl)) ?_; (with_reducible refine (carousellaw02_Awake.calls k  false _ A2.out).mono ?_); rintro e w23 ⟨rfl, hb⟩; refine ⟨_, rfl, ?_⟩; have n0_ := Aside0.mk (below_step (by repeat (first | (with_reducible first | exact HB.out | apply below_alloc | apply pw_below_drewN | apply below_drew1) | exact HB.out)) hb); clear HB; have HB := n0_; clear n0_; (try clear hb); (try clear hb2); (try clear hk); (try clear hi)))
    go_ret
    exact ⟨by first | rfl | (simp [errW_none, errW_some] <;> rfl) | (simp [*, errW_none, errW_some] <;> rfl), by repeat (first | (with_reducible first | exact HB.out | apply below_alloc | apply pw_below_drewN | apply below_drew1) | exact HB.out)⟩

/-! ### req_Kind_String: function 35 (given: its walk is in another text) -/

def req_Kind_String.word (n : Int) : ByteArray :=
  if n = 0 then (⟨#[99, 108, 101, 97, 114]⟩ : ByteArray) else
  if n = 1 then (⟨#[102, 115]⟩ : ByteArray) else
  if n = 2 then (⟨#[114, 101, 109, 111, 116, 101, 45, 102, 115]⟩ : ByteArray) else
  if n = 3 then (⟨#[115, 102]⟩ : ByteArray) else
  if n = 4 then (⟨#[99, 108, 101, 97, 114, 45, 115, 102]⟩ : ByteArray) else
  if n = 5 then (⟨#[114, 101, 109, 111, 116, 101, 45, 115, 102]⟩ : ByteArray) else
  if n = 6 then (⟨#[114, 101, 109, 111, 116, 101, 45, 109, 115]⟩ : ByteArray) else
  if n = 7 then (⟨#[109, 115]⟩ : ByteArray) else
  if n = 8 then (⟨#[114, 101, 115, 116, 45, 111, 118, 101, 114]⟩ : ByteArray) else
  if n = 9 then (⟨#[114, 101, 115, 116, 45, 114, 117, 110, 115]⟩ : ByteArray) else
  if n = 10 then (⟨#[98, 108, 111, 99, 107, 45, 111, 118, 101, 114]⟩ : ByteArray) else
  if n = 11 then (⟨#[98, 108, 111, 99, 107, 45, 114, 117, 110, 115]⟩ : ByteArray) else
  if n = 12 then (⟨#[114, 101, 109, 111, 116, 101, 45, 105, 100, 108, 101]⟩ : ByteArray) else
  if n = 13 then (⟨#[114, 101, 109, 111, 116, 101, 45, 110, 111, 110, 101]⟩ : ByteArray) else
  (⟨#[110, 111, 110, 101]⟩ : ByteArray)
def req_Kind_String.f (a0 : Int) : Option (ByteArray) := some (req_Kind_String.word a0)
def req_Kind_String.arr : Array Value := #[.string (⟨#[99, 108, 101, 97, 114]⟩ : ByteArray), .string (⟨#[102, 115]⟩ : ByteArray), .string (⟨#[114, 101, 109, 111, 116, 101, 45, 102, 115]⟩ : ByteArray), .string (⟨#[115, 102]⟩ : ByteArray), .string (⟨#[99, 108, 101, 97, 114, 45, 115, 102]⟩ : ByteArray), .string (⟨#[114, 101, 109, 111, 116, 101, 45, 115, 102]⟩ : ByteArray), .string (⟨#[114, 101, 109, 111, 116, 101, 45, 109, 115]⟩ : ByteArray), .string (⟨#[109, 115]⟩ : ByteArray), .string (⟨#[114, 101, 115, 116, 45, 111, 118, 101, 114]⟩ : ByteArray), .string (⟨#[114, 101, 115, 116, 45, 114, 117, 110, 115]⟩ : ByteArray), .string (⟨#[98, 108, 111, 99, 107, 45, 111, 118, 101, 114]⟩ : ByteArray), .string (⟨#[98, 108, 111, 99, 107, 45, 114, 117, 110, 115]⟩ : ByteArray), .string (⟨#[114, 101, 109, 111, 116, 101, 45, 105, 100, 108, 101]⟩ : ByteArray), .string (⟨#[114, 101, 109, 111, 116, 101, 45, 110, 111, 110, 101]⟩ : ByteArray)]
set_option maxHeartbeats 4000000 in
set_option maxRecDepth 100000 in
theorem req_Kind_String.c0 (w : World) : Calls Try.prog 35 #[.int .i64 0] w fun e w' => e = .returned (.string (⟨#[99, 108, 101, 97, 114]⟩ : ByteArray)) ∧ Below w.heap.size w w' := by
  have huA := Try.underlying104
  go_enter Try.func35, Try.ntmps35
  go_wp2_with (go_at_call 61; refine (req_Kind_May.calls 0 true _ rfl).mono ?_; rintro e' w1 ⟨rfl, hw⟩; have hBW := ((Below.refl w.heap.size w).alloc (Nat.le_refl _) _).trans (hw.below.mono (by simp)); obtain ⟨⟨n, rfl⟩⟩ := hw; have hB := blk_drewN (blk_new w (.cells #[.string (⟨#[99, 108, 101, 97, 114]⟩ : ByteArray), .string (⟨#[102, 115]⟩ : ByteArray), .string (⟨#[114, 101, 109, 111, 116, 101, 45, 102, 115]⟩ : ByteArray), .string (⟨#[115, 102]⟩ : ByteArray), .string (⟨#[99, 108, 101, 97, 114, 45, 115, 102]⟩ : ByteArray), .string (⟨#[114, 101, 109, 111, 116, 101, 45, 115, 102]⟩ : ByteArray), .string (⟨#[114, 101, 109, 111, 116, 101, 45, 109, 115]⟩ : ByteArray), .string (⟨#[109, 115]⟩ : ByteArray), .string (⟨#[114, 101, 115, 116, 45, 111, 118, 101, 114]⟩ : ByteArray), .string (⟨#[114, 101, 115, 116, 45, 114, 117, 110, 115]⟩ : ByteArray), .string (⟨#[98, 108, 111, 99, 107, 45, 111, 118, 101, 114]⟩ : ByteArray), .string (⟨#[98, 108, 111, 99, 107, 45, 114, 117, 110, 115]⟩ : ByteArray), .string (⟨#[114, 101, 109, 111, 116, 101, 45, 105, 100, 108, 101]⟩ : ByteArray), .string (⟨#[114, 101, 109, 111, 116, 101, 45, 110, 111, 110, 101]⟩ : ByteArray)] 104)) n; have hz := (blk_cell hB 0).trans rfl)
  exact bodyPost_ret (v := .string (⟨#[99, 108, 101, 97, 114]⟩ : ByteArray)) (by simp [results, Try.results35, go_sem]) rfl ⟨rfl, hBW⟩
set_option maxHeartbeats 4000000 in
set_option maxRecDepth 100000 in
theorem req_Kind_String.c1 (w : World) : Calls Try.prog 35 #[.int .i64 1] w fun e w' => e = .returned (.string (⟨#[102, 115]⟩ : ByteArray)) ∧ Below w.heap.size w w' := by
  have huA := Try.underlying104
  go_enter Try.func35, Try.ntmps35
  go_wp2_with (go_at_call 61; refine (req_Kind_May.calls 1 true _ rfl).mono ?_; rintro e' w1 ⟨rfl, hw⟩; have hBW := ((Below.refl w.heap.size w).alloc (Nat.le_refl _) _).trans (hw.below.mono (by simp)); obtain ⟨⟨n, rfl⟩⟩ := hw; have hB := blk_drewN (blk_new w (.cells #[.string (⟨#[99, 108, 101, 97, 114]⟩ : ByteArray), .string (⟨#[102, 115]⟩ : ByteArray), .string (⟨#[114, 101, 109, 111, 116, 101, 45, 102, 115]⟩ : ByteArray), .string (⟨#[115, 102]⟩ : ByteArray), .string (⟨#[99, 108, 101, 97, 114, 45, 115, 102]⟩ : ByteArray), .string (⟨#[114, 101, 109, 111, 116, 101, 45, 115, 102]⟩ : ByteArray), .string (⟨#[114, 101, 109, 111, 116, 101, 45, 109, 115]⟩ : ByteArray), .string (⟨#[109, 115]⟩ : ByteArray), .string (⟨#[114, 101, 115, 116, 45, 111, 118, 101, 114]⟩ : ByteArray), .string (⟨#[114, 101, 115, 116, 45, 114, 117, 110, 115]⟩ : ByteArray), .string (⟨#[98, 108, 111, 99, 107, 45, 111, 118, 101, 114]⟩ : ByteArray), .string (⟨#[98, 108, 111, 99, 107, 45, 114, 117, 110, 115]⟩ : ByteArray), .string (⟨#[114, 101, 109, 111, 116, 101, 45, 105, 100, 108, 101]⟩ : ByteArray), .string (⟨#[114, 101, 109, 111, 116, 101, 45, 110, 111, 110, 101]⟩ : ByteArray)] 104)) n; have hz := (blk_cell hB 1).trans rfl)
  exact bodyPost_ret (v := .string (⟨#[102, 115]⟩ : ByteArray)) (by simp [results, Try.results35, go_sem]) rfl ⟨rfl, hBW⟩
set_option maxHeartbeats 4000000 in
set_option maxRecDepth 100000 in
theorem req_Kind_String.c2 (w : World) : Calls Try.prog 35 #[.int .i64 2] w fun e w' => e = .returned (.string (⟨#[114, 101, 109, 111, 116, 101, 45, 102, 115]⟩ : ByteArray)) ∧ Below w.heap.size w w' := by
  have huA := Try.underlying104
  go_enter Try.func35, Try.ntmps35
  go_wp2_with (go_at_call 61; refine (req_Kind_May.calls 2 true _ rfl).mono ?_; rintro e' w1 ⟨rfl, hw⟩; have hBW := ((Below.refl w.heap.size w).alloc (Nat.le_refl _) _).trans (hw.below.mono (by simp)); obtain ⟨⟨n, rfl⟩⟩ := hw; have hB := blk_drewN (blk_new w (.cells #[.string (⟨#[99, 108, 101, 97, 114]⟩ : ByteArray), .string (⟨#[102, 115]⟩ : ByteArray), .string (⟨#[114, 101, 109, 111, 116, 101, 45, 102, 115]⟩ : ByteArray), .string (⟨#[115, 102]⟩ : ByteArray), .string (⟨#[99, 108, 101, 97, 114, 45, 115, 102]⟩ : ByteArray), .string (⟨#[114, 101, 109, 111, 116, 101, 45, 115, 102]⟩ : ByteArray), .string (⟨#[114, 101, 109, 111, 116, 101, 45, 109, 115]⟩ : ByteArray), .string (⟨#[109, 115]⟩ : ByteArray), .string (⟨#[114, 101, 115, 116, 45, 111, 118, 101, 114]⟩ : ByteArray), .string (⟨#[114, 101, 115, 116, 45, 114, 117, 110, 115]⟩ : ByteArray), .string (⟨#[98, 108, 111, 99, 107, 45, 111, 118, 101, 114]⟩ : ByteArray), .string (⟨#[98, 108, 111, 99, 107, 45, 114, 117, 110, 115]⟩ : ByteArray), .string (⟨#[114, 101, 109, 111, 116, 101, 45, 105, 100, 108, 101]⟩ : ByteArray), .string (⟨#[114, 101, 109, 111, 116, 101, 45, 110, 111, 110, 101]⟩ : ByteArray)] 104)) n; have hz := (blk_cell hB 2).trans rfl)
  exact bodyPost_ret (v := .string (⟨#[114, 101, 109, 111, 116, 101, 45, 102, 115]⟩ : ByteArray)) (by simp [results, Try.results35, go_sem]) rfl ⟨rfl, hBW⟩
set_option maxHeartbeats 4000000 in
set_option maxRecDepth 100000 in
theorem req_Kind_String.c3 (w : World) : Calls Try.prog 35 #[.int .i64 3] w fun e w' => e = .returned (.string (⟨#[115, 102]⟩ : ByteArray)) ∧ Below w.heap.size w w' := by
  have huA := Try.underlying104
  go_enter Try.func35, Try.ntmps35
  go_wp2_with (go_at_call 61; refine (req_Kind_May.calls 3 true _ rfl).mono ?_; rintro e' w1 ⟨rfl, hw⟩; have hBW := ((Below.refl w.heap.size w).alloc (Nat.le_refl _) _).trans (hw.below.mono (by simp)); obtain ⟨⟨n, rfl⟩⟩ := hw; have hB := blk_drewN (blk_new w (.cells #[.string (⟨#[99, 108, 101, 97, 114]⟩ : ByteArray), .string (⟨#[102, 115]⟩ : ByteArray), .string (⟨#[114, 101, 109, 111, 116, 101, 45, 102, 115]⟩ : ByteArray), .string (⟨#[115, 102]⟩ : ByteArray), .string (⟨#[99, 108, 101, 97, 114, 45, 115, 102]⟩ : ByteArray), .string (⟨#[114, 101, 109, 111, 116, 101, 45, 115, 102]⟩ : ByteArray), .string (⟨#[114, 101, 109, 111, 116, 101, 45, 109, 115]⟩ : ByteArray), .string (⟨#[109, 115]⟩ : ByteArray), .string (⟨#[114, 101, 115, 116, 45, 111, 118, 101, 114]⟩ : ByteArray), .string (⟨#[114, 101, 115, 116, 45, 114, 117, 110, 115]⟩ : ByteArray), .string (⟨#[98, 108, 111, 99, 107, 45, 111, 118, 101, 114]⟩ : ByteArray), .string (⟨#[98, 108, 111, 99, 107, 45, 114, 117, 110, 115]⟩ : ByteArray), .string (⟨#[114, 101, 109, 111, 116, 101, 45, 105, 100, 108, 101]⟩ : ByteArray), .string (⟨#[114, 101, 109, 111, 116, 101, 45, 110, 111, 110, 101]⟩ : ByteArray)] 104)) n; have hz := (blk_cell hB 3).trans rfl)
  exact bodyPost_ret (v := .string (⟨#[115, 102]⟩ : ByteArray)) (by simp [results, Try.results35, go_sem]) rfl ⟨rfl, hBW⟩
set_option maxHeartbeats 4000000 in
set_option maxRecDepth 100000 in
theorem req_Kind_String.c4 (w : World) : Calls Try.prog 35 #[.int .i64 4] w fun e w' => e = .returned (.string (⟨#[99, 108, 101, 97, 114, 45, 115, 102]⟩ : ByteArray)) ∧ Below w.heap.size w w' := by
  have huA := Try.underlying104
  go_enter Try.func35, Try.ntmps35
  go_wp2_with (go_at_call 61; refine (req_Kind_May.calls 4 true _ rfl).mono ?_; rintro e' w1 ⟨rfl, hw⟩; have hBW := ((Below.refl w.heap.size w).alloc (Nat.le_refl _) _).trans (hw.below.mono (by simp)); obtain ⟨⟨n, rfl⟩⟩ := hw; have hB := blk_drewN (blk_new w (.cells #[.string (⟨#[99, 108, 101, 97, 114]⟩ : ByteArray), .string (⟨#[102, 115]⟩ : ByteArray), .string (⟨#[114, 101, 109, 111, 116, 101, 45, 102, 115]⟩ : ByteArray), .string (⟨#[115, 102]⟩ : ByteArray), .string (⟨#[99, 108, 101, 97, 114, 45, 115, 102]⟩ : ByteArray), .string (⟨#[114, 101, 109, 111, 116, 101, 45, 115, 102]⟩ : ByteArray), .string (⟨#[114, 101, 109, 111, 116, 101, 45, 109, 115]⟩ : ByteArray), .string (⟨#[109, 115]⟩ : ByteArray), .string (⟨#[114, 101, 115, 116, 45, 111, 118, 101, 114]⟩ : ByteArray), .string (⟨#[114, 101, 115, 116, 45, 114, 117, 110, 115]⟩ : ByteArray), .string (⟨#[98, 108, 111, 99, 107, 45, 111, 118, 101, 114]⟩ : ByteArray), .string (⟨#[98, 108, 111, 99, 107, 45, 114, 117, 110, 115]⟩ : ByteArray), .string (⟨#[114, 101, 109, 111, 116, 101, 45, 105, 100, 108, 101]⟩ : ByteArray), .string (⟨#[114, 101, 109, 111, 116, 101, 45, 110, 111, 110, 101]⟩ : ByteArray)] 104)) n; have hz := (blk_cell hB 4).trans rfl)
  exact bodyPost_ret (v := .string (⟨#[99, 108, 101, 97, 114, 45, 115, 102]⟩ : ByteArray)) (by simp [results, Try.results35, go_sem]) rfl ⟨rfl, hBW⟩
set_option maxHeartbeats 4000000 in
set_option maxRecDepth 100000 in
theorem req_Kind_String.c5 (w : World) : Calls Try.prog 35 #[.int .i64 5] w fun e w' => e = .returned (.string (⟨#[114, 101, 109, 111, 116, 101, 45, 115, 102]⟩ : ByteArray)) ∧ Below w.heap.size w w' := by
  have huA := Try.underlying104
  go_enter Try.func35, Try.ntmps35
  go_wp2_with (go_at_call 61; refine (req_Kind_May.calls 5 true _ rfl).mono ?_; rintro e' w1 ⟨rfl, hw⟩; have hBW := ((Below.refl w.heap.size w).alloc (Nat.le_refl _) _).trans (hw.below.mono (by simp)); obtain ⟨⟨n, rfl⟩⟩ := hw; have hB := blk_drewN (blk_new w (.cells #[.string (⟨#[99, 108, 101, 97, 114]⟩ : ByteArray), .string (⟨#[102, 115]⟩ : ByteArray), .string (⟨#[114, 101, 109, 111, 116, 101, 45, 102, 115]⟩ : ByteArray), .string (⟨#[115, 102]⟩ : ByteArray), .string (⟨#[99, 108, 101, 97, 114, 45, 115, 102]⟩ : ByteArray), .string (⟨#[114, 101, 109, 111, 116, 101, 45, 115, 102]⟩ : ByteArray), .string (⟨#[114, 101, 109, 111, 116, 101, 45, 109, 115]⟩ : ByteArray), .string (⟨#[109, 115]⟩ : ByteArray), .string (⟨#[114, 101, 115, 116, 45, 111, 118, 101, 114]⟩ : ByteArray), .string (⟨#[114, 101, 115, 116, 45, 114, 117, 110, 115]⟩ : ByteArray), .string (⟨#[98, 108, 111, 99, 107, 45, 111, 118, 101, 114]⟩ : ByteArray), .string (⟨#[98, 108, 111, 99, 107, 45, 114, 117, 110, 115]⟩ : ByteArray), .string (⟨#[114, 101, 109, 111, 116, 101, 45, 105, 100, 108, 101]⟩ : ByteArray), .string (⟨#[114, 101, 109, 111, 116, 101, 45, 110, 111, 110, 101]⟩ : ByteArray)] 104)) n; have hz := (blk_cell hB 5).trans rfl)
  exact bodyPost_ret (v := .string (⟨#[114, 101, 109, 111, 116, 101, 45, 115, 102]⟩ : ByteArray)) (by simp [results, Try.results35, go_sem]) rfl ⟨rfl, hBW⟩
set_option maxHeartbeats 4000000 in
set_option maxRecDepth 100000 in
theorem req_Kind_String.c6 (w : World) : Calls Try.prog 35 #[.int .i64 6] w fun e w' => e = .returned (.string (⟨#[114, 101, 109, 111, 116, 101, 45, 109, 115]⟩ : ByteArray)) ∧ Below w.heap.size w w' := by
  have huA := Try.underlying104
  go_enter Try.func35, Try.ntmps35
  go_wp2_with (go_at_call 61; refine (req_Kind_May.calls 6 true _ rfl).mono ?_; rintro e' w1 ⟨rfl, hw⟩; have hBW := ((Below.refl w.heap.size w).alloc (Nat.le_refl _) _).trans (hw.below.mono (by simp)); obtain ⟨⟨n, rfl⟩⟩ := hw; have hB := blk_drewN (blk_new w (.cells #[.string (⟨#[99, 108, 101, 97, 114]⟩ : ByteArray), .string (⟨#[102, 115]⟩ : ByteArray), .string (⟨#[114, 101, 109, 111, 116, 101, 45, 102, 115]⟩ : ByteArray), .string (⟨#[115, 102]⟩ : ByteArray), .string (⟨#[99, 108, 101, 97, 114, 45, 115, 102]⟩ : ByteArray), .string (⟨#[114, 101, 109, 111, 116, 101, 45, 115, 102]⟩ : ByteArray), .string (⟨#[114, 101, 109, 111, 116, 101, 45, 109, 115]⟩ : ByteArray), .string (⟨#[109, 115]⟩ : ByteArray), .string (⟨#[114, 101, 115, 116, 45, 111, 118, 101, 114]⟩ : ByteArray), .string (⟨#[114, 101, 115, 116, 45, 114, 117, 110, 115]⟩ : ByteArray), .string (⟨#[98, 108, 111, 99, 107, 45, 111, 118, 101, 114]⟩ : ByteArray), .string (⟨#[98, 108, 111, 99, 107, 45, 114, 117, 110, 115]⟩ : ByteArray), .string (⟨#[114, 101, 109, 111, 116, 101, 45, 105, 100, 108, 101]⟩ : ByteArray), .string (⟨#[114, 101, 109, 111, 116, 101, 45, 110, 111, 110, 101]⟩ : ByteArray)] 104)) n; have hz := (blk_cell hB 6).trans rfl)
  exact bodyPost_ret (v := .string (⟨#[114, 101, 109, 111, 116, 101, 45, 109, 115]⟩ : ByteArray)) (by simp [results, Try.results35, go_sem]) rfl ⟨rfl, hBW⟩
set_option maxHeartbeats 4000000 in
set_option maxRecDepth 100000 in
theorem req_Kind_String.c7 (w : World) : Calls Try.prog 35 #[.int .i64 7] w fun e w' => e = .returned (.string (⟨#[109, 115]⟩ : ByteArray)) ∧ Below w.heap.size w w' := by
  have huA := Try.underlying104
  go_enter Try.func35, Try.ntmps35
  go_wp2_with (go_at_call 61; refine (req_Kind_May.calls 7 true _ rfl).mono ?_; rintro e' w1 ⟨rfl, hw⟩; have hBW := ((Below.refl w.heap.size w).alloc (Nat.le_refl _) _).trans (hw.below.mono (by simp)); obtain ⟨⟨n, rfl⟩⟩ := hw; have hB := blk_drewN (blk_new w (.cells #[.string (⟨#[99, 108, 101, 97, 114]⟩ : ByteArray), .string (⟨#[102, 115]⟩ : ByteArray), .string (⟨#[114, 101, 109, 111, 116, 101, 45, 102, 115]⟩ : ByteArray), .string (⟨#[115, 102]⟩ : ByteArray), .string (⟨#[99, 108, 101, 97, 114, 45, 115, 102]⟩ : ByteArray), .string (⟨#[114, 101, 109, 111, 116, 101, 45, 115, 102]⟩ : ByteArray), .string (⟨#[114, 101, 109, 111, 116, 101, 45, 109, 115]⟩ : ByteArray), .string (⟨#[109, 115]⟩ : ByteArray), .string (⟨#[114, 101, 115, 116, 45, 111, 118, 101, 114]⟩ : ByteArray), .string (⟨#[114, 101, 115, 116, 45, 114, 117, 110, 115]⟩ : ByteArray), .string (⟨#[98, 108, 111, 99, 107, 45, 111, 118, 101, 114]⟩ : ByteArray), .string (⟨#[98, 108, 111, 99, 107, 45, 114, 117, 110, 115]⟩ : ByteArray), .string (⟨#[114, 101, 109, 111, 116, 101, 45, 105, 100, 108, 101]⟩ : ByteArray), .string (⟨#[114, 101, 109, 111, 116, 101, 45, 110, 111, 110, 101]⟩ : ByteArray)] 104)) n; have hz := (blk_cell hB 7).trans rfl)
  exact bodyPost_ret (v := .string (⟨#[109, 115]⟩ : ByteArray)) (by simp [results, Try.results35, go_sem]) rfl ⟨rfl, hBW⟩
set_option maxHeartbeats 4000000 in
set_option maxRecDepth 100000 in
theorem req_Kind_String.c8 (w : World) : Calls Try.prog 35 #[.int .i64 8] w fun e w' => e = .returned (.string (⟨#[114, 101, 115, 116, 45, 111, 118, 101, 114]⟩ : ByteArray)) ∧ Below w.heap.size w w' := by
  have huA := Try.underlying104
  go_enter Try.func35, Try.ntmps35
  go_wp2_with (go_at_call 61; refine (req_Kind_May.calls 8 true _ rfl).mono ?_; rintro e' w1 ⟨rfl, hw⟩; have hBW := ((Below.refl w.heap.size w).alloc (Nat.le_refl _) _).trans (hw.below.mono (by simp)); obtain ⟨⟨n, rfl⟩⟩ := hw; have hB := blk_drewN (blk_new w (.cells #[.string (⟨#[99, 108, 101, 97, 114]⟩ : ByteArray), .string (⟨#[102, 115]⟩ : ByteArray), .string (⟨#[114, 101, 109, 111, 116, 101, 45, 102, 115]⟩ : ByteArray), .string (⟨#[115, 102]⟩ : ByteArray), .string (⟨#[99, 108, 101, 97, 114, 45, 115, 102]⟩ : ByteArray), .string (⟨#[114, 101, 109, 111, 116, 101, 45, 115, 102]⟩ : ByteArray), .string (⟨#[114, 101, 109, 111, 116, 101, 45, 109, 115]⟩ : ByteArray), .string (⟨#[109, 115]⟩ : ByteArray), .string (⟨#[114, 101, 115, 116, 45, 111, 118, 101, 114]⟩ : ByteArray), .string (⟨#[114, 101, 115, 116, 45, 114, 117, 110, 115]⟩ : ByteArray), .string (⟨#[98, 108, 111, 99, 107, 45, 111, 118, 101, 114]⟩ : ByteArray), .string (⟨#[98, 108, 111, 99, 107, 45, 114, 117, 110, 115]⟩ : ByteArray), .string (⟨#[114, 101, 109, 111, 116, 101, 45, 105, 100, 108, 101]⟩ : ByteArray), .string (⟨#[114, 101, 109, 111, 116, 101, 45, 110, 111, 110, 101]⟩ : ByteArray)] 104)) n; have hz := (blk_cell hB 8).trans rfl)
  exact bodyPost_ret (v := .string (⟨#[114, 101, 115, 116, 45, 111, 118, 101, 114]⟩ : ByteArray)) (by simp [results, Try.results35, go_sem]) rfl ⟨rfl, hBW⟩
set_option maxHeartbeats 4000000 in
set_option maxRecDepth 100000 in
theorem req_Kind_String.c9 (w : World) : Calls Try.prog 35 #[.int .i64 9] w fun e w' => e = .returned (.string (⟨#[114, 101, 115, 116, 45, 114, 117, 110, 115]⟩ : ByteArray)) ∧ Below w.heap.size w w' := by
  have huA := Try.underlying104
  go_enter Try.func35, Try.ntmps35
  go_wp2_with (go_at_call 61; refine (req_Kind_May.calls 9 true _ rfl).mono ?_; rintro e' w1 ⟨rfl, hw⟩; have hBW := ((Below.refl w.heap.size w).alloc (Nat.le_refl _) _).trans (hw.below.mono (by simp)); obtain ⟨⟨n, rfl⟩⟩ := hw; have hB := blk_drewN (blk_new w (.cells #[.string (⟨#[99, 108, 101, 97, 114]⟩ : ByteArray), .string (⟨#[102, 115]⟩ : ByteArray), .string (⟨#[114, 101, 109, 111, 116, 101, 45, 102, 115]⟩ : ByteArray), .string (⟨#[115, 102]⟩ : ByteArray), .string (⟨#[99, 108, 101, 97, 114, 45, 115, 102]⟩ : ByteArray), .string (⟨#[114, 101, 109, 111, 116, 101, 45, 115, 102]⟩ : ByteArray), .string (⟨#[114, 101, 109, 111, 116, 101, 45, 109, 115]⟩ : ByteArray), .string (⟨#[109, 115]⟩ : ByteArray), .string (⟨#[114, 101, 115, 116, 45, 111, 118, 101, 114]⟩ : ByteArray), .string (⟨#[114, 101, 115, 116, 45, 114, 117, 110, 115]⟩ : ByteArray), .string (⟨#[98, 108, 111, 99, 107, 45, 111, 118, 101, 114]⟩ : ByteArray), .string (⟨#[98, 108, 111, 99, 107, 45, 114, 117, 110, 115]⟩ : ByteArray), .string (⟨#[114, 101, 109, 111, 116, 101, 45, 105, 100, 108, 101]⟩ : ByteArray), .string (⟨#[114, 101, 109, 111, 116, 101, 45, 110, 111, 110, 101]⟩ : ByteArray)] 104)) n; have hz := (blk_cell hB 9).trans rfl)
  exact bodyPost_ret (v := .string (⟨#[114, 101, 115, 116, 45, 114, 117, 110, 115]⟩ : ByteArray)) (by simp [results, Try.results35, go_sem]) rfl ⟨rfl, hBW⟩
set_option maxHeartbeats 4000000 in
set_option maxRecDepth 100000 in
theorem req_Kind_String.c10 (w : World) : Calls Try.prog 35 #[.int .i64 10] w fun e w' => e = .returned (.string (⟨#[98, 108, 111, 99, 107, 45, 111, 118, 101, 114]⟩ : ByteArray)) ∧ Below w.heap.size w w' := by
  have huA := Try.underlying104
  go_enter Try.func35, Try.ntmps35
  go_wp2_with (go_at_call 61; refine (req_Kind_May.calls 10 true _ rfl).mono ?_; rintro e' w1 ⟨rfl, hw⟩; have hBW := ((Below.refl w.heap.size w).alloc (Nat.le_refl _) _).trans (hw.below.mono (by simp)); obtain ⟨⟨n, rfl⟩⟩ := hw; have hB := blk_drewN (blk_new w (.cells #[.string (⟨#[99, 108, 101, 97, 114]⟩ : ByteArray), .string (⟨#[102, 115]⟩ : ByteArray), .string (⟨#[114, 101, 109, 111, 116, 101, 45, 102, 115]⟩ : ByteArray), .string (⟨#[115, 102]⟩ : ByteArray), .string (⟨#[99, 108, 101, 97, 114, 45, 115, 102]⟩ : ByteArray), .string (⟨#[114, 101, 109, 111, 116, 101, 45, 115, 102]⟩ : ByteArray), .string (⟨#[114, 101, 109, 111, 116, 101, 45, 109, 115]⟩ : ByteArray), .string (⟨#[109, 115]⟩ : ByteArray), .string (⟨#[114, 101, 115, 116, 45, 111, 118, 101, 114]⟩ : ByteArray), .string (⟨#[114, 101, 115, 116, 45, 114, 117, 110, 115]⟩ : ByteArray), .string (⟨#[98, 108, 111, 99, 107, 45, 111, 118, 101, 114]⟩ : ByteArray), .string (⟨#[98, 108, 111, 99, 107, 45, 114, 117, 110, 115]⟩ : ByteArray), .string (⟨#[114, 101, 109, 111, 116, 101, 45, 105, 100, 108, 101]⟩ : ByteArray), .string (⟨#[114, 101, 109, 111, 116, 101, 45, 110, 111, 110, 101]⟩ : ByteArray)] 104)) n; have hz := (blk_cell hB 10).trans rfl)
  exact bodyPost_ret (v := .string (⟨#[98, 108, 111, 99, 107, 45, 111, 118, 101, 114]⟩ : ByteArray)) (by simp [results, Try.results35, go_sem]) rfl ⟨rfl, hBW⟩
set_option maxHeartbeats 4000000 in
set_option maxRecDepth 100000 in
theorem req_Kind_String.c11 (w : World) : Calls Try.prog 35 #[.int .i64 11] w fun e w' => e = .returned (.string (⟨#[98, 108, 111, 99, 107, 45, 114, 117, 110, 115]⟩ : ByteArray)) ∧ Below w.heap.size w w' := by
  have huA := Try.underlying104
  go_enter Try.func35, Try.ntmps35
  go_wp2_with (go_at_call 61; refine (req_Kind_May.calls 11 true _ rfl).mono ?_; rintro e' w1 ⟨rfl, hw⟩; have hBW := ((Below.refl w.heap.size w).alloc (Nat.le_refl _) _).trans (hw.below.mono (by simp)); obtain ⟨⟨n, rfl⟩⟩ := hw; have hB := blk_drewN (blk_new w (.cells #[.string (⟨#[99, 108, 101, 97, 114]⟩ : ByteArray), .string (⟨#[102, 115]⟩ : ByteArray), .string (⟨#[114, 101, 109, 111, 116, 101, 45, 102, 115]⟩ : ByteArray), .string (⟨#[115, 102]⟩ : ByteArray), .string (⟨#[99, 108, 101, 97, 114, 45, 115, 102]⟩ : ByteArray), .string (⟨#[114, 101, 109, 111, 116, 101, 45, 115, 102]⟩ : ByteArray), .string (⟨#[114, 101, 109, 111, 116, 101, 45, 109, 115]⟩ : ByteArray), .string (⟨#[109, 115]⟩ : ByteArray), .string (⟨#[114, 101, 115, 116, 45, 111, 118, 101, 114]⟩ : ByteArray), .string (⟨#[114, 101, 115, 116, 45, 114, 117, 110, 115]⟩ : ByteArray), .string (⟨#[98, 108, 111, 99, 107, 45, 111, 118, 101, 114]⟩ : ByteArray), .string (⟨#[98, 108, 111, 99, 107, 45, 114, 117, 110, 115]⟩ : ByteArray), .string (⟨#[114, 101, 109, 111, 116, 101, 45, 105, 100, 108, 101]⟩ : ByteArray), .string (⟨#[114, 101, 109, 111, 116, 101, 45, 110, 111, 110, 101]⟩ : ByteArray)] 104)) n; have hz := (blk_cell hB 11).trans rfl)
  exact bodyPost_ret (v := .string (⟨#[98, 108, 111, 99, 107, 45, 114, 117, 110, 115]⟩ : ByteArray)) (by simp [results, Try.results35, go_sem]) rfl ⟨rfl, hBW⟩
set_option maxHeartbeats 4000000 in
set_option maxRecDepth 100000 in
theorem req_Kind_String.c12 (w : World) : Calls Try.prog 35 #[.int .i64 12] w fun e w' => e = .returned (.string (⟨#[114, 101, 109, 111, 116, 101, 45, 105, 100, 108, 101]⟩ : ByteArray)) ∧ Below w.heap.size w w' := by
  have huA := Try.underlying104
  go_enter Try.func35, Try.ntmps35
  go_wp2_with (go_at_call 61; refine (req_Kind_May.calls 12 true _ rfl).mono ?_; rintro e' w1 ⟨rfl, hw⟩; have hBW := ((Below.refl w.heap.size w).alloc (Nat.le_refl _) _).trans (hw.below.mono (by simp)); obtain ⟨⟨n, rfl⟩⟩ := hw; have hB := blk_drewN (blk_new w (.cells #[.string (⟨#[99, 108, 101, 97, 114]⟩ : ByteArray), .string (⟨#[102, 115]⟩ : ByteArray), .string (⟨#[114, 101, 109, 111, 116, 101, 45, 102, 115]⟩ : ByteArray), .string (⟨#[115, 102]⟩ : ByteArray), .string (⟨#[99, 108, 101, 97, 114, 45, 115, 102]⟩ : ByteArray), .string (⟨#[114, 101, 109, 111, 116, 101, 45, 115, 102]⟩ : ByteArray), .string (⟨#[114, 101, 109, 111, 116, 101, 45, 109, 115]⟩ : ByteArray), .string (⟨#[109, 115]⟩ : ByteArray), .string (⟨#[114, 101, 115, 116, 45, 111, 118, 101, 114]⟩ : ByteArray), .string (⟨#[114, 101, 115, 116, 45, 114, 117, 110, 115]⟩ : ByteArray), .string (⟨#[98, 108, 111, 99, 107, 45, 111, 118, 101, 114]⟩ : ByteArray), .string (⟨#[98, 108, 111, 99, 107, 45, 114, 117, 110, 115]⟩ : ByteArray), .string (⟨#[114, 101, 109, 111, 116, 101, 45, 105, 100, 108, 101]⟩ : ByteArray), .string (⟨#[114, 101, 109, 111, 116, 101, 45, 110, 111, 110, 101]⟩ : ByteArray)] 104)) n; have hz := (blk_cell hB 12).trans rfl)
  exact bodyPost_ret (v := .string (⟨#[114, 101, 109, 111, 116, 101, 45, 105, 100, 108, 101]⟩ : ByteArray)) (by simp [results, Try.results35, go_sem]) rfl ⟨rfl, hBW⟩
set_option maxHeartbeats 4000000 in
set_option maxRecDepth 100000 in
theorem req_Kind_String.c13 (w : World) : Calls Try.prog 35 #[.int .i64 13] w fun e w' => e = .returned (.string (⟨#[114, 101, 109, 111, 116, 101, 45, 110, 111, 110, 101]⟩ : ByteArray)) ∧ Below w.heap.size w w' := by
  have huA := Try.underlying104
  go_enter Try.func35, Try.ntmps35
  go_wp2_with (go_at_call 61; refine (req_Kind_May.calls 13 true _ rfl).mono ?_; rintro e' w1 ⟨rfl, hw⟩; have hBW := ((Below.refl w.heap.size w).alloc (Nat.le_refl _) _).trans (hw.below.mono (by simp)); obtain ⟨⟨n, rfl⟩⟩ := hw; have hB := blk_drewN (blk_new w (.cells #[.string (⟨#[99, 108, 101, 97, 114]⟩ : ByteArray), .string (⟨#[102, 115]⟩ : ByteArray), .string (⟨#[114, 101, 109, 111, 116, 101, 45, 102, 115]⟩ : ByteArray), .string (⟨#[115, 102]⟩ : ByteArray), .string (⟨#[99, 108, 101, 97, 114, 45, 115, 102]⟩ : ByteArray), .string (⟨#[114, 101, 109, 111, 116, 101, 45, 115, 102]⟩ : ByteArray), .string (⟨#[114, 101, 109, 111, 116, 101, 45, 109, 115]⟩ : ByteArray), .string (⟨#[109, 115]⟩ : ByteArray), .string (⟨#[114, 101, 115, 116, 45, 111, 118, 101, 114]⟩ : ByteArray), .string (⟨#[114, 101, 115, 116, 45, 114, 117, 110, 115]⟩ : ByteArray), .string (⟨#[98, 108, 111, 99, 107, 45, 111, 118, 101, 114]⟩ : ByteArray), .string (⟨#[98, 108, 111, 99, 107, 45, 114, 117, 110, 115]⟩ : ByteArray), .string (⟨#[114, 101, 109, 111, 116, 101, 45, 105, 100, 108, 101]⟩ : ByteArray), .string (⟨#[114, 101, 109, 111, 116, 101, 45, 110, 111, 110, 101]⟩ : ByteArray)] 104)) n; have hz := (blk_cell hB 13).trans rfl)
  exact bodyPost_ret (v := .string (⟨#[114, 101, 109, 111, 116, 101, 45, 110, 111, 110, 101]⟩ : ByteArray)) (by simp [results, Try.results35, go_sem]) rfl ⟨rfl, hBW⟩
set_option maxHeartbeats 4000000 in
set_option maxRecDepth 100000 in
theorem req_Kind_String.no (a0 : Int) (h : ¬ (0 ≤ a0 ∧ a0 ≤ 13)) (w : World) : Calls Try.prog 35 #[.int .i64 a0] w fun e w' => e = .returned (.string (⟨#[110, 111, 110, 101]⟩ : ByteArray)) ∧ Below w.heap.size w w' := by
  have huA := Try.underlying104
  go_enter Try.func35, Try.ntmps35
  go_wp2_with (go_at_call 61; refine (req_Kind_May.calls a0 false _ (by unfold req_Kind_May.f; split <;> simp <;> omega)).mono ?_; rintro e' w1 ⟨rfl, hw⟩; have hBW := ((Below.refl w.heap.size w).alloc (Nat.le_refl _) _).trans (hw.below.mono (by simp)); obtain ⟨⟨n, rfl⟩⟩ := hw; have hB := blk_drewN (blk_new w (.cells #[.string (⟨#[99, 108, 101, 97, 114]⟩ : ByteArray), .string (⟨#[102, 115]⟩ : ByteArray), .string (⟨#[114, 101, 109, 111, 116, 101, 45, 102, 115]⟩ : ByteArray), .string (⟨#[115, 102]⟩ : ByteArray), .string (⟨#[99, 108, 101, 97, 114, 45, 115, 102]⟩ : ByteArray), .string (⟨#[114, 101, 109, 111, 116, 101, 45, 115, 102]⟩ : ByteArray), .string (⟨#[114, 101, 109, 111, 116, 101, 45, 109, 115]⟩ : ByteArray), .string (⟨#[109, 115]⟩ : ByteArray), .string (⟨#[114, 101, 115, 116, 45, 111, 118, 101, 114]⟩ : ByteArray), .string (⟨#[114, 101, 115, 116, 45, 114, 117, 110, 115]⟩ : ByteArray), .string (⟨#[98, 108, 111, 99, 107, 45, 111, 118, 101, 114]⟩ : ByteArray), .string (⟨#[98, 108, 111, 99, 107, 45, 114, 117, 110, 115]⟩ : ByteArray), .string (⟨#[114, 101, 109, 111, 116, 101, 45, 105, 100, 108, 101]⟩ : ByteArray), .string (⟨#[114, 101, 109, 111, 116, 101, 45, 110, 111, 110, 101]⟩ : ByteArray)] 104)) n)
  exact bodyPost_ret (v := .string (⟨#[110, 111, 110, 101]⟩ : ByteArray)) (by simp [results, Try.results35, go_sem]) rfl ⟨rfl, hBW⟩
theorem req_Kind_String.calls (a0 : Int) (r : ByteArray) (w : World) (h : req_Kind_String.f a0 = some r) :
    Calls Try.prog 35 #[.int .i64 a0] w fun e w' => e = .returned (.string r) ∧ Below w.heap.size w w' := by
  obtain rfl := Option.some.inj h
  clear h
  by_cases c0 : a0 = 0
  · subst c0; exact req_Kind_String.c0 w
  by_cases c1 : a0 = 1
  · subst c1; exact req_Kind_String.c1 w
  by_cases c2 : a0 = 2
  · subst c2; exact req_Kind_String.c2 w
  by_cases c3 : a0 = 3
  · subst c3; exact req_Kind_String.c3 w
  by_cases c4 : a0 = 4
  · subst c4; exact req_Kind_String.c4 w
  by_cases c5 : a0 = 5
  · subst c5; exact req_Kind_String.c5 w
  by_cases c6 : a0 = 6
  · subst c6; exact req_Kind_String.c6 w
  by_cases c7 : a0 = 7
  · subst c7; exact req_Kind_String.c7 w
  by_cases c8 : a0 = 8
  · subst c8; exact req_Kind_String.c8 w
  by_cases c9 : a0 = 9
  · subst c9; exact req_Kind_String.c9 w
  by_cases c10 : a0 = 10
  · subst c10; exact req_Kind_String.c10 w
  by_cases c11 : a0 = 11
  · subst c11; exact req_Kind_String.c11 w
  by_cases c12 : a0 = 12
  · subst c12; exact req_Kind_String.c12 w
  by_cases c13 : a0 = 13
  · subst c13; exact req_Kind_String.c13 w
  unfold req_Kind_String.word
  rw [if_neg c0, if_neg c1, if_neg c2, if_neg c3, if_neg c4, if_neg c5, if_neg c6, if_neg c7, if_neg c8, if_neg c9, if_neg c10, if_neg c11, if_neg c12, if_neg c13]
  exact req_Kind_String.no a0 (by omega) w


/-! ### carousellaw12_Awake: function 9 -/
def carousellaw12_Awake.f (k : Nat)  : Option (Bool) := (carousellaw05_Awake.f k).bind fun t171 => (if t171 = true then ((req_Kind_Above.f 1 2).bind fun t172 => (if t172 = true then ((req_Best.f k (([3, 7] : List Int))).bind fun t176 => (if t176 = 3 then ((req_Kind_String.f 12).bind fun t177 => (some (t177.toList == ([114, 101, 109, 111, 116, 101, 45, 105, 100, 108, 101] : List UInt8)))) else (some false))) else (some false))) else (some false))
theorem carousellaw12_Awake.mono : ∀ k, LeO (carousellaw12_Awake.f k ) (carousellaw12_Awake.f (k + 1) ) := by
  intro  k
  unfold carousellaw12_Awake.f
  repeat' first
      | (with_reducible exact carousellaw05_Awake.mono _)
      | (with_reducible exact req_Best.mono _ _)
      | (with_reducible exact LeO.refl _)
      | (with_reducible exact LeO.none _)
      | (with_reducible refine LeO.ite ?_ ?_)
      | (with_reducible refine LeO.bind ?_ (fun _ => ?_))
      | exact carousellaw05_Awake.mono _
      | exact req_Best.mono _ _
      | exact LeO.none _
      | refine LeO.ite ?_ ?_
      | refine LeO.bind ?_ (fun _ => ?_)
set_option maxHeartbeats 8000000 in
set_option maxRecDepth 100000 in
theorem carousellaw12_Awake.calls (k : Nat)  (r : Bool) (w : World) (h : carousellaw12_Awake.f k  = some r) :
    Calls Try.prog 9 #[] w fun e w' => e = .returned (.bool r) ∧ Below w.heap.size w w' := by
  have HB := Aside0.mk (Below.refl w.heap.size w)
  have H : ((carousellaw05_Awake.f k).bind fun t171 => (if t171 = true then ((req_Kind_Above.f 1 2).bind fun t172 => (if t172 = true then ((req_Best.f k (([3, 7] : List Int))).bind fun t176 => (if t176 = 3 then ((req_Kind_String.f 12).bind fun t177 => (some (t177.toList == ([114, 101, 109, 111, 116, 101, 45, 105, 100, 108, 101] : List UInt8)))) else (some false))) else (some false))) else (some false))) = some r := h
  clear h
  replace H := Option.bind_eq_some_iff.mp H
  obtain ⟨t171, A10, H⟩ := H
  replace H : (if t171 = true then ((req_Kind_Above.f 1 2).bind fun t172 => (if t172 = true then ((req_Best.f k (([3, 7] : List Int))).bind fun t176 => (if t176 = 3 then ((req_Kind_String.f 12).bind fun t177 => (some (t177.toList == ([114, 101, 109, 111, 116, 101, 45, 105, 100, 108, 101] : List UInt8)))) else (some false))) else (some false))) else (some false)) = some r := H
  have A1 := Aside0.mk A10
  clear A10
  by_cases c2 : t171 = true
  · subst c2
    have H1 : ((req_Kind_Above.f 1 2).bind fun t172 => (if t172 = true then ((req_Best.f k (([3, 7] : List Int))).bind fun t176 => (if t176 = 3 then ((req_Kind_String.f 12).bind fun t177 => (some (t177.toList == ([114, 101, 109, 111, 116, 101, 45, 105, 100, 108, 101] : List UInt8)))) else (some false))) else (some false))) = some r := by rw [if_pos rfl] at H; exact H
    clear H
    have H := H1
    clear H1
    replace H := Option.bind_eq_some_iff.mp H
    obtain ⟨t172, A30, H⟩ := H
    replace H : (if t172 = true then ((req_Best.f k (([3, 7] : List Int))).bind fun t176 => (if t176 = 3 then ((req_Kind_String.f 12).bind fun t177 => (some (t177.toList == ([114, 101, 109, 111, 116, 101, 45, 105, 100, 108, 101] : List UInt8)))) else (some false))) else (some false)) = some r := H
    have A3 := Aside0.mk A30
    clear A30
    by_cases c4 : t172 = true
    · subst c4
      have H1 : ((req_Best.f k (([3, 7] : List Int))).bind fun t176 => (if t176 = 3 then ((req_Kind_String.f 12).bind fun t177 => (some (t177.toList == ([114, 101, 109, 111, 116, 101, 45, 105, 100, 108, 101] : List UInt8)))) else (some false))) = some r := by rw [if_pos rfl] at H; exact H
      clear H
      have H := H1
      clear H1
      obtain ⟨y173, hy173⟩ : ∃ y_ : List Int, y_ = (([3, 7] : List Int)) := ⟨_, rfl⟩
      replace H : ((req_Best.f k y173).bind fun t176 => (if t176 = 3 then ((req_Kind_String.f 12).bind fun t177 => (some (t177.toList == ([114, 101, 109, 111, 116, 101, 45, 105, 100, 108, 101] : List UInt8)))) else (some false))) = some r := by first | (rw [hy173]; with_reducible exact H) | (have H2_ := (Option.bind_some _ _).symm.trans H; rw [hy173]; with_reducible exact H2_) | (have H2_ := (Option.bind_some _ _).symm.trans H; with_reducible exact H2_) | with_reducible exact H | (rw [hy173]; exact H) | exact H
      have Ny173 := Aside0.mk hy173
      clear hy173
      replace H := Option.bind_eq_some_iff.mp H
      obtain ⟨t176, A50, H⟩ := H
      replace H : (if t176 = 3 then ((req_Kind_String.f 12).bind fun t177 => (some (t177.toList == ([114, 101, 109, 111, 116, 101, 45, 105, 100, 108, 101] : List UInt8)))) else (some false)) = some r := H
      have A5 := Aside0.mk A50
      clear A50
      by_cases c6 : t176 = 3
      · rw [if_pos c6] at H
        have c6b0 : (t176 == 3) = true := beq_iff_eq.mpr c6
        have c6b1 : (t176 != 3) = false := bne_eq_false_iff_eq.mpr c6
        clear c6
        replace H := Option.bind_eq_some_iff.mp H
        obtain ⟨t177, A70, H⟩ := H
        replace H : (some (t177.toList == ([114, 101, 109, 111, 116, 101, 45, 105, 100, 108, 101] : List UInt8))) = some r := H
        have A7 := Aside0.mk A70
        clear A70
        obtain rfl := Option.some.inj H
        go_enter Try.func9, Try.ntmps9
        go_wp2_with (first | ((with_reducible refine gate_callee (f := 21) rfl ?_); refine goesL_ (some 1) rfl rfl Try.func21 (by kernel_rfl) rfl #[] rfl (by (try simp only [List.map_toArray, List.map_cons, List.map_nil]); first | done | rfl | (simp only [List.length_drop, List.length_take]; rfl)) ?_; (with_reducible refine (carousellaw05_Awake.calls k  true _ A1.out).mono ?_); rintro e w8 ⟨rfl, hb⟩; refine ⟨_, rfl, ?_⟩; have n0_ := Aside0.mk (below_step (by repeat (first | (with_reducible first | exact HB.out | apply below_alloc | apply pw_below_drewN | apply below_drew1) | exact HB.out)) hb); clear HB; have HB := n0_; clear n0_; (try clear hb); (try clear hb2); (try clear hk); (try clear hi)) | (go_at_call 34; (with_reducible refine (req_Kind_Above.calls 1 2 true _ A3.out).mono ?_); rintro e w' ⟨rfl, ⟨nd, rfl⟩⟩) | ((with_reducible refine gate_dst (N := 6) rfl ?_); (try (refine gate_guard (by rfl) ?_; dsimp only)); refine Kd.R_lit (Kd.int .i64) _ 30 ?hg (N := 6) ?hd (xs := ([3, 7] : List Int)) (inner := [.int .i64 3, .int .i64 7]) (ok := fun _ => True) (okp := fun _ => True) ?hr ?hp (fun _ hk => hk) trivial (Below.refl _ _) (Nat.le_refl _) (by simp) ?_; (case hd => rfl); (case hg => rfl); (case hr => first | (go_simp; done) | (go_simp; rfl)); (case hp => exact (Reps.one (show Kd.M (Kd.int .i64) _ _ _ 3 [.int .i64 3] from rfl) (Reps.one (show Kd.M (Kd.int .i64) _ _ _ 7 [.int .i64 7] from rfl) (Reps.none _ _)))); intro v174 w9 ho10 hb hg_ hnew_; clear hg_ hnew_; (first | rw [← Ny173.out] at ho10 | (simp only [Int.reduceToNat] at ho10; rw [← Ny173.out] at ho10)); have n0_ := Aside0.mk (Kd.R_lower ho10 (below_size (by repeat (first | (with_reducible first | exact HB.out | apply below_alloc | apply pw_below_drewN | apply below_drew1) | exact HB.out)))); have n1_ := Aside0.mk (below_step (by repeat (first | (with_reducible first | exact HB.out | apply below_alloc | apply pw_below_drewN | apply below_drew1) | exact HB.out)) hb); clear HB; have HO175 := n0_; have HB := n1_; clear n0_ n1_; clear hb ho10; obtain ⟨Ao11, co11, eo11⟩ := Kd.R_slice HO175.out; subst eo11) | (go_at_call 13; (with_reducible refine (req_Best.calls k _ _ y173 t176 _ ?side1 ?side2 A5.out).mono ?_); (case side1 => repeat (first | exact (Kd.R_reads' HO175.out).2.2 | (with_reducible refine Kd.C_alloc ?_ _) | (with_reducible refine Kd.C_drewN ?_ _) | (with_reducible refine Kd.C_drew ?_))); (case side2 => exact (Kd.R_reads' HO175.out).2.1); rintro e w' ⟨rfl, ⟨nd, rfl⟩⟩) | (go_at_call 35; (with_reducible refine (req_Kind_String.calls 12 t177 _ A7.out).mono ?_); rintro e w12 ⟨rfl, hb⟩; have n0_ := Aside0.mk (Kd.R_below (by (with_reducible repeat (first | apply Kd.R_alloc | apply Kd.R_drewN | apply Kd.R_drew)); exact HO175.out) hb); have n1_ := Aside0.mk (below_step (by repeat (first | (with_reducible first | exact HB.out | apply below_alloc | apply pw_below_drewN | apply below_drew1) | exact HB.out)) hb); clear HO175; clear HB; have HO175 := n0_; have HB := n1_; clear n0_ n1_; (try clear hb); (try clear hb2); (try clear hk); (try clear hi)))
        go_ret
        exact ⟨by first | rfl | (simp [errW_none, errW_some] <;> rfl) | (simp [*, errW_none, errW_some] <;> rfl), by repeat (first | (with_reducible first | exact HB.out | apply below_alloc | apply pw_below_drewN | apply below_drew1) | exact HB.out)⟩
      · rw [if_neg c6] at H
        have c6b0 : (t176 == 3) = false := beq_eq_false_iff_ne.mpr c6
        have c6b1 : (t176 != 3) = true := bne_iff_ne.mpr c6
        obtain rfl := Option.some.inj H
        go_enter Try.func9, Try.ntmps9
        go_wp2_with (first | ((with_reducible refine gate_callee (f := 21) rfl ?_); refine goesL_ (some 1) rfl rfl Try.func21 (by kernel_rfl) rfl #[] rfl (by (try simp only [List.map_toArray, List.map_cons, List.map_nil]); first | done | rfl | (simp only [List.length_drop, List.length_take]; rfl)) ?_; (with_reducible refine (carousellaw05_Awake.calls k  true _ A1.out).mono ?_); rintro e w13 ⟨rfl, hb⟩; refine ⟨_, rfl, ?_⟩; have n0_ := Aside0.mk (below_step (by repeat (first | (with_reducible first | exact HB.out | apply below_alloc | apply pw_below_drewN | apply below_drew1) | exact HB.out)) hb); clear HB; have HB := n0_; clear n0_; (try clear hb); (try clear hb2); (try clear hk); (try clear hi)) | (go_at_call 34; (with_reducible refine (req_Kind_Above.calls 1 2 true _ A3.out).mono ?_); rintro e w' ⟨rfl, ⟨nd, rfl⟩⟩) | ((with_reducible refine gate_dst (N := 6) rfl ?_); (try (refine gate_guard (by rfl) ?_; dsimp only)); refine Kd.R_lit (Kd.int .i64) _ 30 ?hg (N := 6) ?hd (xs := ([3, 7] : List Int)) (inner := [.int .i64 3, .int .i64 7]) (ok := fun _ => True) (okp := fun _ => True) ?hr ?hp (fun _ hk => hk) trivial (Below.refl _ _) (Nat.le_refl _) (by simp) ?_; (case hd => rfl); (case hg => rfl); (case hr => first | (go_simp; done) | (go_simp; rfl)); (case hp => exact (Reps.one (show Kd.M (Kd.int .i64) _ _ _ 3 [.int .i64 3] from rfl) (Reps.one (show Kd.M (Kd.int .i64) _ _ _ 7 [.int .i64 7] from rfl) (Reps.none _ _)))); intro v174 w14 ho15 hb hg_ hnew_; clear hg_ hnew_; (first | rw [← Ny173.out] at ho15 | (simp only [Int.reduceToNat] at ho15; rw [← Ny173.out] at ho15)); have n0_ := Aside0.mk (Kd.R_lower ho15 (below_size (by repeat (first | (with_reducible first | exact HB.out | apply below_alloc | apply pw_below_drewN | apply below_drew1) | exact HB.out)))); have n1_ := Aside0.mk (below_step (by repeat (first | (with_reducible first | exact HB.out | apply below_alloc | apply pw_below_drewN | apply below_drew1) | exact HB.out)) hb); clear HB; have HO175 := n0_; have HB := n1_; clear n0_ n1_; clear hb ho15; obtain ⟨Ao16, co16, eo16⟩ := Kd.R_slice HO175.out; subst eo16) | (go_at_call 13; (with_reducible refine (req_Best.calls k _ _ y173 t176 _ ?side1 ?side2 A5.out).mono ?_); (case side1 => repeat (first | exact (Kd.R_reads' HO175.out).2.2 | (with_reducible refine Kd.C_alloc ?_ _) | (with_reducible refine Kd.C_drewN ?_ _) | (with_reducible refine Kd.C_drew ?_))); (case side2 => exact (Kd.R_reads' HO175.out).2.1); rintro e w' ⟨rfl, ⟨nd, rfl⟩⟩))
        go_ret
        exact ⟨by first | rfl | (simp [errW_none, errW_some] <;> rfl) | (simp [*, errW_none, errW_some] <;> rfl), by repeat (first | (with_reducible first | exact HB.out | apply below_alloc | apply pw_below_drewN | apply below_drew1) | exact HB.out)⟩
    · replace c4 := Bool.eq_false_iff.mpr c4
      subst c4
      have H1 : (some false) = some r := by rw [if_neg (show ¬ (false = true) by decide)] at H; exact H
      clear H
      have H := H1
      clear H1
      obtain rfl := Option.some.inj H
      go_enter Try.func9, Try.ntmps9
      go_wp2_with (first | ((with_reducible refine gate_callee (f := 21) rfl ?_); refine goesL_ (some 1) rfl rfl Try.func21 (by kernel_rfl) rfl #[] rfl (by (try simp only [List.map_toArray, List.map_cons, List.map_nil]); first | done | rfl | (simp only [List.length_drop, List.length_take]; rfl)) ?_; (with_reducible refine (carousellaw05_Awake.calls k  true _ A1.out).mono ?_); rintro e w17 ⟨rfl, hb⟩; refine ⟨_, rfl, ?_⟩; have n0_ := Aside0.mk (below_step (by repeat (first | (with_reducible first | exact HB.out | apply below_alloc | apply pw_below_drewN | apply below_drew1) | exact HB.out)) hb); clear HB; have HB := n0_; clear n0_; (try clear hb); (try clear hb2); (try clear hk); (try clear hi)) | (go_at_call 34; (with_reducible refine (req_Kind_Above.calls 1 2 false _ A3.out).mono ?_); rintro e w' ⟨rfl, ⟨nd, rfl⟩⟩))
      go_ret
      exact ⟨by first | rfl | (simp [errW_none, errW_some] <;> rfl) | (simp [*, errW_none, errW_some] <;> rfl), by repeat (first | (with_reducible first | exact HB.out | apply below_alloc | apply pw_below_drewN | apply below_drew1) | exact HB.out)⟩
  · replace c2 := Bool.eq_false_iff.mpr c2
    subst c2
    have H1 : (some false) = some r := by rw [if_neg (show ¬ (false = true) by decide)] at H; exact H
    clear H
    have H := H1
    clear H1
    obtain rfl := Option.some.inj H
    go_enter Try.func9, Try.ntmps9
    go_wp2_with (first | ((with_reducible refine gate_callee (f := 21) rfl ?_); refine goesL_ (some 1) rfl rfl Try.func21 (by kernel_rfl) rfl #[] rfl (by (try simp only [List.map_toArray, List.map_cons, List.map_nil]); first | done | rfl | (simp only [List.length_drop, List.length_take]; rfl)) ?_; (with_reducible refine (carousellaw05_Awake.calls k  false _ A1.out).mono ?_); rintro e w18 ⟨rfl, hb⟩; refine ⟨_, rfl, ?_⟩; have n0_ := Aside0.mk (below_step (by repeat (first | (with_reducible first | exact HB.out | apply below_alloc | apply pw_below_drewN | apply below_drew1) | exact HB.out)) hb); clear HB; have HB := n0_; clear n0_; (try clear hb); (try clear hb2); (try clear hk); (try clear hi)))
    go_ret
    exact ⟨by first | rfl | (simp [errW_none, errW_some] <;> rfl) | (simp [*, errW_none, errW_some] <;> rfl), by repeat (first | (with_reducible first | exact HB.out | apply below_alloc | apply pw_below_drewN | apply below_drew1) | exact HB.out)⟩

/-! ### req_Of: function 10 -/
def req_Of.f (a0_0 : Int) (a0_1 : Bool) (a0_2 : Bool) (a0_3 : Bool) (a0_4 : Int) : Option (Int) := if a0_0 = 13 then (some 2) else (if a0_0 = 11 then (some 5) else (if a0_0 = 7 then (some 6) else (if a0_0 = 0 then (if a0_1 = true then (some 12) else (some 13)) else (some 14))))
set_option maxHeartbeats 8000000 in
set_option maxRecDepth 100000 in
theorem req_Of.calls (a0_0 : Int) (a0_1 : Bool) (a0_2 : Bool) (a0_3 : Bool) (a0_4 : Int) (r : Int) (w : World) (h : req_Of.f a0_0 a0_1 a0_2 a0_3 a0_4 = some r) :
    Calls Try.prog 10 #[.agg #[.int .u8 a0_0, .bool a0_1, .bool a0_2, .bool a0_3, .int .u64 a0_4]] w fun e w' => e = .returned (.int .i64 r) ∧ Below w.heap.size w w' := by
  have hu26 := Try.underlying26
  have HB := Aside0.mk (Below.refl w.heap.size w)
  have H : (if a0_0 = 13 then (some 2) else (if a0_0 = 11 then (some 5) else (if a0_0 = 7 then (some 6) else (if a0_0 = 0 then (if a0_1 = true then (some 12) else (some 13)) else (some 14))))) = some r := h
  clear h
  by_cases c2 : a0_0 = 13
  · rw [if_pos c2] at H
    have c2b0 : (a0_0 == 13) = true := beq_iff_eq.mpr c2
    have c2b1 : (a0_0 != 13) = false := bne_eq_false_iff_eq.mpr c2
    clear c2
    obtain rfl := Option.some.inj H
    go_enter Try.func10, Try.ntmps10
    go_wp2_with (first | ((with_reducible refine gate_dst (N := 1) rfl ?_); refine box_event ?hg (N := 1) ?hd (cs := #[.int .u8 a0_0, .bool a0_1, .bool a0_2, .bool a0_3, .int .u64 a0_4]) (t := 26) ?hr ?_; (case hd => rfl); (case hg => rfl); (case hr => first | (go_simp; done) | (go_simp; rfl)); intro gb178 hg w3 hbox hb; have n0_ := Aside0.mk (below_step (by repeat (first | (with_reducible first | exact HB.out | apply below_alloc | apply pw_below_drewN | apply below_drew1) | exact HB.out)) hb); have n1_ := Aside0.mk (hbox); have n2_ := Aside0.mk ((by rw [hg]; exact (below_size (by repeat (first | (with_reducible first | exact HB.out | apply below_alloc | apply pw_below_drewN | apply below_drew1) | exact HB.out))) : w.heap.size ≤ gb178)); have n3_ := Aside0.mk ((by rw [hg]; exact (below_size (by repeat (first | (with_reducible first | exact HB.out | apply below_alloc | apply pw_below_drewN | apply below_drew1) | exact HB.out))) : w.heap.size ≤ gb178)); clear HB; have HB := n0_; have BK178 := n1_; have GW178 := n2_; have GE178 := n3_; clear n0_ n1_ n2_ n3_; clear hb hbox hg; have hcz4_0 : w3.cell? ⟨gb178, 0, none⟩ = some (.int .u8 a0_0) := (blk_cell BK178.out 0).trans rfl; have hcz4_1 : w3.cell? ⟨gb178, 1, none⟩ = some (.bool a0_1) := (blk_cell BK178.out 1).trans rfl; have hcz4_2 : w3.cell? ⟨gb178, 2, none⟩ = some (.bool a0_2) := (blk_cell BK178.out 2).trans rfl; have hcz4_3 : w3.cell? ⟨gb178, 3, none⟩ = some (.bool a0_3) := (blk_cell BK178.out 3).trans rfl; have hcz4_4 : w3.cell? ⟨gb178, 4, none⟩ = some (.int .u64 a0_4) := (blk_cell BK178.out 4).trans rfl; have hfz4_0 := blk_frozen BK178.out 0; have hfz4_1 := blk_frozen BK178.out 1; have hfz4_2 := blk_frozen BK178.out 2; have hfz4_3 := blk_frozen BK178.out 3; have hfz4_4 := blk_frozen BK178.out 4))
    go_ret
    exact ⟨by first | rfl | (simp [errW_none, errW_some] <;> rfl) | (simp [*, errW_none, errW_some] <;> rfl), by repeat (first | (with_reducible first | exact HB.out | apply below_alloc | apply pw_below_drewN | apply below_drew1 | refine below_set ?_ GE178.out) | exact HB.out)⟩
  · rw [if_neg c2] at H
    have c2b0 : (a0_0 == 13) = false := beq_eq_false_iff_ne.mpr c2
    have c2b1 : (a0_0 != 13) = true := bne_iff_ne.mpr c2
    by_cases c5 : a0_0 = 11
    · rw [if_pos c5] at H
      have c5b0 : (a0_0 == 11) = true := beq_iff_eq.mpr c5
      have c5b1 : (a0_0 != 11) = false := bne_eq_false_iff_eq.mpr c5
      clear c5
      obtain rfl := Option.some.inj H
      go_enter Try.func10, Try.ntmps10
      go_wp2_with (first | ((with_reducible refine gate_dst (N := 1) rfl ?_); refine box_event ?hg (N := 1) ?hd (cs := #[.int .u8 a0_0, .bool a0_1, .bool a0_2, .bool a0_3, .int .u64 a0_4]) (t := 26) ?hr ?_; (case hd => rfl); (case hg => rfl); (case hr => first | (go_simp; done) | (go_simp; rfl)); intro gb178 hg w6 hbox hb; have n0_ := Aside0.mk (below_step (by repeat (first | (with_reducible first | exact HB.out | apply below_alloc | apply pw_below_drewN | apply below_drew1) | exact HB.out)) hb); have n1_ := Aside0.mk (hbox); have n2_ := Aside0.mk ((by rw [hg]; exact (below_size (by repeat (first | (with_reducible first | exact HB.out | apply below_alloc | apply pw_below_drewN | apply below_drew1) | exact HB.out))) : w.heap.size ≤ gb178)); have n3_ := Aside0.mk ((by rw [hg]; exact (below_size (by repeat (first | (with_reducible first | exact HB.out | apply below_alloc | apply pw_below_drewN | apply below_drew1) | exact HB.out))) : w.heap.size ≤ gb178)); clear HB; have HB := n0_; have BK178 := n1_; have GW178 := n2_; have GE178 := n3_; clear n0_ n1_ n2_ n3_; clear hb hbox hg; have hcz7_0 : w6.cell? ⟨gb178, 0, none⟩ = some (.int .u8 a0_0) := (blk_cell BK178.out 0).trans rfl; have hcz7_1 : w6.cell? ⟨gb178, 1, none⟩ = some (.bool a0_1) := (blk_cell BK178.out 1).trans rfl; have hcz7_2 : w6.cell? ⟨gb178, 2, none⟩ = some (.bool a0_2) := (blk_cell BK178.out 2).trans rfl; have hcz7_3 : w6.cell? ⟨gb178, 3, none⟩ = some (.bool a0_3) := (blk_cell BK178.out 3).trans rfl; have hcz7_4 : w6.cell? ⟨gb178, 4, none⟩ = some (.int .u64 a0_4) := (blk_cell BK178.out 4).trans rfl; have hfz7_0 := blk_frozen BK178.out 0; have hfz7_1 := blk_frozen BK178.out 1; have hfz7_2 := blk_frozen BK178.out 2; have hfz7_3 := blk_frozen BK178.out 3; have hfz7_4 := blk_frozen BK178.out 4))
      go_ret
      exact ⟨by first | rfl | (simp [errW_none, errW_some] <;> rfl) | (simp [*, errW_none, errW_some] <;> rfl), by repeat (first | (with_reducible first | exact HB.out | apply below_alloc | apply pw_below_drewN | apply below_drew1 | refine below_set ?_ GE178.out) | exact HB.out)⟩
    · rw [if_neg c5] at H
      have c5b0 : (a0_0 == 11) = false := beq_eq_false_iff_ne.mpr c5
      have c5b1 : (a0_0 != 11) = true := bne_iff_ne.mpr c5
      by_cases c8 : a0_0 = 7
      · rw [if_pos c8] at H
        have c8b0 : (a0_0 == 7) = true := beq_iff_eq.mpr c8
        have c8b1 : (a0_0 != 7) = false := bne_eq_false_iff_eq.mpr c8
        clear c8
        obtain rfl := Option.some.inj H
        go_enter Try.func10, Try.ntmps10
        go_wp2_with (first | ((with_reducible refine gate_dst (N := 1) rfl ?_); refine box_event ?hg (N := 1) ?hd (cs := #[.int .u8 a0_0, .bool a0_1, .bool a0_2, .bool a0_3, .int .u64 a0_4]) (t := 26) ?hr ?_; (case hd => rfl); (case hg => rfl); (case hr => first | (go_simp; done) | (go_simp; rfl)); intro gb178 hg w9 hbox hb; have n0_ := Aside0.mk (below_step (by repeat (first | (with_reducible first | exact HB.out | apply below_alloc | apply pw_below_drewN | apply below_drew1) | exact HB.out)) hb); have n1_ := Aside0.mk (hbox); have n2_ := Aside0.mk ((by rw [hg]; exact (below_size (by repeat (first | (with_reducible first | exact HB.out | apply below_alloc | apply pw_below_drewN | apply below_drew1) | exact HB.out))) : w.heap.size ≤ gb178)); have n3_ := Aside0.mk ((by rw [hg]; exact (below_size (by repeat (first | (with_reducible first | exact HB.out | apply below_alloc | apply pw_below_drewN | apply below_drew1) | exact HB.out))) : w.heap.size ≤ gb178)); clear HB; have HB := n0_; have BK178 := n1_; have GW178 := n2_; have GE178 := n3_; clear n0_ n1_ n2_ n3_; clear hb hbox hg; have hcz10_0 : w9.cell? ⟨gb178, 0, none⟩ = some (.int .u8 a0_0) := (blk_cell BK178.out 0).trans rfl; have hcz10_1 : w9.cell? ⟨gb178, 1, none⟩ = some (.bool a0_1) := (blk_cell BK178.out 1).trans rfl; have hcz10_2 : w9.cell? ⟨gb178, 2, none⟩ = some (.bool a0_2) := (blk_cell BK178.out 2).trans rfl; have hcz10_3 : w9.cell? ⟨gb178, 3, none⟩ = some (.bool a0_3) := (blk_cell BK178.out 3).trans rfl; have hcz10_4 : w9.cell? ⟨gb178, 4, none⟩ = some (.int .u64 a0_4) := (blk_cell BK178.out 4).trans rfl; have hfz10_0 := blk_frozen BK178.out 0; have hfz10_1 := blk_frozen BK178.out 1; have hfz10_2 := blk_frozen BK178.out 2; have hfz10_3 := blk_frozen BK178.out 3; have hfz10_4 := blk_frozen BK178.out 4))
        go_ret
        exact ⟨by first | rfl | (simp [errW_none, errW_some] <;> rfl) | (simp [*, errW_none, errW_some] <;> rfl), by repeat (first | (with_reducible first | exact HB.out | apply below_alloc | apply pw_below_drewN | apply below_drew1 | refine below_set ?_ GE178.out) | exact HB.out)⟩
      · rw [if_neg c8] at H
        have c8b0 : (a0_0 == 7) = false := beq_eq_false_iff_ne.mpr c8
        have c8b1 : (a0_0 != 7) = true := bne_iff_ne.mpr c8
        by_cases c11 : a0_0 = 0
        · rw [if_pos c11] at H
          have c11b0 : (a0_0 == 0) = true := beq_iff_eq.mpr c11
          have c11b1 : (a0_0 != 0) = false := bne_eq_false_iff_eq.mpr c11
          clear c11
          by_cases c12 : a0_1 = true
          · subst c12
            have H1 : (some 12) = some r := by rw [if_pos rfl] at H; exact H
            clear H
            have H := H1
            clear H1
            obtain rfl := Option.some.inj H
            go_enter Try.func10, Try.ntmps10
            go_wp2_with (first | ((with_reducible refine gate_dst (N := 1) rfl ?_); refine box_event ?hg (N := 1) ?hd (cs := #[.int .u8 a0_0, .bool true, .bool a0_2, .bool a0_3, .int .u64 a0_4]) (t := 26) ?hr ?_; (case hd => rfl); (case hg => rfl); (case hr => first | (go_simp; done) | (go_simp; rfl)); intro gb178 hg w13 hbox hb; have n0_ := Aside0.mk (below_step (by repeat (first | (with_reducible first | exact HB.out | apply below_alloc | apply pw_below_drewN | apply below_drew1) | exact HB.out)) hb); have n1_ := Aside0.mk (hbox); have n2_ := Aside0.mk ((by rw [hg]; exact (below_size (by repeat (first | (with_reducible first | exact HB.out | apply below_alloc | apply pw_below_drewN | apply below_drew1) | exact HB.out))) : w.heap.size ≤ gb178)); have n3_ := Aside0.mk ((by rw [hg]; exact (below_size (by repeat (first | (with_reducible first | exact HB.out | apply below_alloc | apply pw_below_drewN | apply below_drew1) | exact HB.out))) : w.heap.size ≤ gb178)); clear HB; have HB := n0_; have BK178 := n1_; have GW178 := n2_; have GE178 := n3_; clear n0_ n1_ n2_ n3_; clear hb hbox hg; have hcz14_0 : w13.cell? ⟨gb178, 0, none⟩ = some (.int .u8 a0_0) := (blk_cell BK178.out 0).trans rfl; have hcz14_1 : w13.cell? ⟨gb178, 1, none⟩ = some (.bool true) := (blk_cell BK178.out 1).trans rfl; have hcz14_2 : w13.cell? ⟨gb178, 2, none⟩ = some (.bool a0_2) := (blk_cell BK178.out 2).trans rfl; have hcz14_3 : w13.cell? ⟨gb178, 3, none⟩ = some (.bool a0_3) := (blk_cell BK178.out 3).trans rfl; have hcz14_4 : w13.cell? ⟨gb178, 4, none⟩ = some (.int .u64 a0_4) := (blk_cell BK178.out 4).trans rfl; have hfz14_0 := blk_frozen BK178.out 0; have hfz14_1 := blk_frozen BK178.out 1; have hfz14_2 := blk_frozen BK178.out 2; have hfz14_3 := blk_frozen BK178.out 3; have hfz14_4 := blk_frozen BK178.out 4))
            go_ret
            exact ⟨by first | rfl | (simp [errW_none, errW_some] <;> rfl) | (simp [*, errW_none, errW_some] <;> rfl), by repeat (first | (with_reducible first | exact HB.out | apply below_alloc | apply pw_below_drewN | apply below_drew1 | refine below_set ?_ GE178.out) | exact HB.out)⟩
          · replace c12 := Bool.eq_false_iff.mpr c12
            subst c12
            have H1 : (some 13) = some r := by rw [if_neg (show ¬ (false = true) by decide)] at H; exact H
            clear H
            have H := H1
            clear H1
            obtain rfl := Option.some.inj H
            go_enter Try.func10, Try.ntmps10
            go_wp2_with (first | ((with_reducible refine gate_dst (N := 1) rfl ?_); refine box_event ?hg (N := 1) ?hd (cs := #[.int .u8 a0_0, .bool false, .bool a0_2, .bool a0_3, .int .u64 a0_4]) (t := 26) ?hr ?_; (case hd => rfl); (case hg => rfl); (case hr => first | (go_simp; done) | (go_simp; rfl)); intro gb178 hg w15 hbox hb; have n0_ := Aside0.mk (below_step (by repeat (first | (with_reducible first | exact HB.out | apply below_alloc | apply pw_below_drewN | apply below_drew1) | exact HB.out)) hb); have n1_ := Aside0.mk (hbox); have n2_ := Aside0.mk ((by rw [hg]; exact (below_size (by repeat (first | (with_reducible first | exact HB.out | apply below_alloc | apply pw_below_drewN | apply below_drew1) | exact HB.out))) : w.heap.size ≤ gb178)); have n3_ := Aside0.mk ((by rw [hg]; exact (below_size (by repeat (first | (with_reducible first | exact HB.out | apply below_alloc | apply pw_below_drewN | apply below_drew1) | exact HB.out))) : w.heap.size ≤ gb178)); clear HB; have HB := n0_; have BK178 := n1_; have GW178 := n2_; have GE178 := n3_; clear n0_ n1_ n2_ n3_; clear hb hbox hg; have hcz16_0 : w15.cell? ⟨gb178, 0, none⟩ = some (.int .u8 a0_0) := (blk_cell BK178.out 0).trans rfl; have hcz16_1 : w15.cell? ⟨gb178, 1, none⟩ = some (.bool false) := (blk_cell BK178.out 1).trans rfl; have hcz16_2 : w15.cell? ⟨gb178, 2, none⟩ = some (.bool a0_2) := (blk_cell BK178.out 2).trans rfl; have hcz16_3 : w15.cell? ⟨gb178, 3, none⟩ = some (.bool a0_3) := (blk_cell BK178.out 3).trans rfl; have hcz16_4 : w15.cell? ⟨gb178, 4, none⟩ = some (.int .u64 a0_4) := (blk_cell BK178.out 4).trans rfl; have hfz16_0 := blk_frozen BK178.out 0; have hfz16_1 := blk_frozen BK178.out 1; have hfz16_2 := blk_frozen BK178.out 2; have hfz16_3 := blk_frozen BK178.out 3; have hfz16_4 := blk_frozen BK178.out 4))
            go_ret
            exact ⟨by first | rfl | (simp [errW_none, errW_some] <;> rfl) | (simp [*, errW_none, errW_some] <;> rfl), by repeat (first | (with_reducible first | exact HB.out | apply below_alloc | apply pw_below_drewN | apply below_drew1 | refine below_set ?_ GE178.out) | exact HB.out)⟩
        · rw [if_neg c11] at H
          have c11b0 : (a0_0 == 0) = false := beq_eq_false_iff_ne.mpr c11
          have c11b1 : (a0_0 != 0) = true := bne_iff_ne.mpr c11
          obtain rfl := Option.some.inj H
          go_enter Try.func10, Try.ntmps10
          go_wp2_with (first | ((with_reducible refine gate_dst (N := 1) rfl ?_); refine box_event ?hg (N := 1) ?hd (cs := #[.int .u8 a0_0, .bool a0_1, .bool a0_2, .bool a0_3, .int .u64 a0_4]) (t := 26) ?hr ?_; (case hd => rfl); (case hg => rfl); (case hr => first | (go_simp; done) | (go_simp; rfl)); intro gb178 hg w17 hbox hb; have n0_ := Aside0.mk (below_step (by repeat (first | (with_reducible first | exact HB.out | apply below_alloc | apply pw_below_drewN | apply below_drew1) | exact HB.out)) hb); have n1_ := Aside0.mk (hbox); have n2_ := Aside0.mk ((by rw [hg]; exact (below_size (by repeat (first | (with_reducible first | exact HB.out | apply below_alloc | apply pw_below_drewN | apply below_drew1) | exact HB.out))) : w.heap.size ≤ gb178)); have n3_ := Aside0.mk ((by rw [hg]; exact (below_size (by repeat (first | (with_reducible first | exact HB.out | apply below_alloc | apply pw_below_drewN | apply below_drew1) | exact HB.out))) : w.heap.size ≤ gb178)); clear HB; have HB := n0_; have BK178 := n1_; have GW178 := n2_; have GE178 := n3_; clear n0_ n1_ n2_ n3_; clear hb hbox hg; have hcz18_0 : w17.cell? ⟨gb178, 0, none⟩ = some (.int .u8 a0_0) := (blk_cell BK178.out 0).trans rfl; have hcz18_1 : w17.cell? ⟨gb178, 1, none⟩ = some (.bool a0_1) := (blk_cell BK178.out 1).trans rfl; have hcz18_2 : w17.cell? ⟨gb178, 2, none⟩ = some (.bool a0_2) := (blk_cell BK178.out 2).trans rfl; have hcz18_3 : w17.cell? ⟨gb178, 3, none⟩ = some (.bool a0_3) := (blk_cell BK178.out 3).trans rfl; have hcz18_4 : w17.cell? ⟨gb178, 4, none⟩ = some (.int .u64 a0_4) := (blk_cell BK178.out 4).trans rfl; have hfz18_0 := blk_frozen BK178.out 0; have hfz18_1 := blk_frozen BK178.out 1; have hfz18_2 := blk_frozen BK178.out 2; have hfz18_3 := blk_frozen BK178.out 3; have hfz18_4 := blk_frozen BK178.out 4))
          go_ret
          exact ⟨by first | rfl | (simp [errW_none, errW_some] <;> rfl) | (simp [*, errW_none, errW_some] <;> rfl), by repeat (first | (with_reducible first | exact HB.out | apply below_alloc | apply pw_below_drewN | apply below_drew1 | refine below_set ?_ GE178.out) | exact HB.out)⟩

/-! ### carouselref12_Of: function 11 -/
def carouselref12_Of.j0 : Nat → Bool → Int → Bool → Bool → Bool → Int → Option (Int)
  | 0, _, _, _, _, _, _ => none
  | k + 1, x18, x180000, x180001, x180002, x180003, x180004 => if x18 = true then (some 12) else (if x180000 = 0 then (some 13) else (some 14))
def carouselref12_Of.f (k : Nat) (a0_0 : Int) (a0_1 : Bool) (a0_2 : Bool) (a0_3 : Bool) (a0_4 : Int) : Option (Int) := if a0_0 = 13 then (some 2) else (if a0_0 = 11 then (some 5) else (if a0_0 = 7 then (some 6) else (if a0_0 = 0 then (carouselref12_Of.j0 k a0_1 a0_0 a0_1 a0_2 a0_3 a0_4) else (carouselref12_Of.j0 k false a0_0 a0_1 a0_2 a0_3 a0_4))))
theorem carouselref12_Of.mono_l : ∀ k, (∀ y0 y1 y2 y3 y4 y5, LeO (carouselref12_Of.j0 k y0 y1 y2 y3 y4 y5) (carouselref12_Of.j0 (k + 1) y0 y1 y2 y3 y4 y5))
  | 0 => fun _ _ _ _ _ _ r h => by simp [carouselref12_Of.j0] at h
  | k + 1 => by
    have ih0 := carouselref12_Of.mono_l k
    · intro y0 y1 y2 y3 y4 y5
      unfold carouselref12_Of.j0
      repeat' first
      | (with_reducible exact ih0 _ _ _ _ _ _)
      | (with_reducible exact LeO.refl _)
      | (with_reducible exact LeO.none _)
      | (with_reducible refine LeO.ite ?_ ?_)
      | (with_reducible refine LeO.bind ?_ (fun _ => ?_))
      | exact ih0 _ _ _ _ _ _
      | exact LeO.none _
      | refine LeO.ite ?_ ?_
      | refine LeO.bind ?_ (fun _ => ?_)
theorem carouselref12_Of.mono : ∀ a0 a1 a2 a3 a4 k, LeO (carouselref12_Of.f k a0 a1 a2 a3 a4) (carouselref12_Of.f (k + 1) a0 a1 a2 a3 a4) := by
  intro a0 a1 a2 a3 a4 k
  have ih0 := carouselref12_Of.mono_l k
  unfold carouselref12_Of.f
  repeat' first
      | (with_reducible exact ih0 _ _ _ _ _ _)
      | (with_reducible exact LeO.refl _)
      | (with_reducible exact LeO.none _)
      | (with_reducible refine LeO.ite ?_ ?_)
      | (with_reducible refine LeO.bind ?_ (fun _ => ?_))
      | exact ih0 _ _ _ _ _ _
      | exact LeO.none _
      | refine LeO.ite ?_ ?_
      | refine LeO.bind ?_ (fun _ => ?_)
set_option maxHeartbeats 8000000 in
set_option maxRecDepth 100000 in
theorem carouselref12_Of.calls (k : Nat) (a0_0 : Int) (a0_1 : Bool) (a0_2 : Bool) (a0_3 : Bool) (a0_4 : Int) (r : Int) (w : World) (h : carouselref12_Of.f k a0_0 a0_1 a0_2 a0_3 a0_4 = some r) :
    Calls Try.prog 11 #[.agg #[.int .u8 a0_0, .bool a0_1, .bool a0_2, .bool a0_3, .int .u64 a0_4]] w fun e w' => e = .returned (.int .i64 r) ∧ Below w.heap.size w w' := by
  have hu34 := Try.underlying34
  have HB := Aside0.mk (Below.refl w.heap.size w)
  have H : (if a0_0 = 13 then (some 2) else (if a0_0 = 11 then (some 5) else (if a0_0 = 7 then (some 6) else (if a0_0 = 0 then (carouselref12_Of.j0 k a0_1 a0_0 a0_1 a0_2 a0_3 a0_4) else (carouselref12_Of.j0 k false a0_0 a0_1 a0_2 a0_3 a0_4))))) = some r := h
  clear h
  by_cases c2 : a0_0 = 13
  · rw [if_pos c2] at H
    have c2b0 : (a0_0 == 13) = true := beq_iff_eq.mpr c2
    have c2b1 : (a0_0 != 13) = false := bne_eq_false_iff_eq.mpr c2
    clear c2
    obtain rfl := Option.some.inj H
    go_enter Try.func11, Try.ntmps11
    go_wp2_with (first | ((with_reducible refine gate_dst (N := 1) rfl ?_); refine box_event ?hg (N := 1) ?hd (cs := #[.int .u8 a0_0, .bool a0_1, .bool a0_2, .bool a0_3, .int .u64 a0_4]) (t := 34) ?hr ?_; (case hd => rfl); (case hg => rfl); (case hr => first | (go_simp; done) | (go_simp; rfl)); intro gb179 hg w3 hbox hb; have n0_ := Aside0.mk (below_step (by repeat (first | (with_reducible first | exact HB.out | apply below_alloc | apply pw_below_drewN | apply below_drew1) | exact HB.out)) hb); have n1_ := Aside0.mk (hbox); have n2_ := Aside0.mk ((by rw [hg]; exact (below_size (by repeat (first | (with_reducible first | exact HB.out | apply below_alloc | apply pw_below_drewN | apply below_drew1) | exact HB.out))) : w.heap.size ≤ gb179)); have n3_ := Aside0.mk ((by rw [hg]; exact (below_size (by repeat (first | (with_reducible first | exact HB.out | apply below_alloc | apply pw_below_drewN | apply below_drew1) | exact HB.out))) : w.heap.size ≤ gb179)); clear HB; have HB := n0_; have BK179 := n1_; have GW179 := n2_; have GE179 := n3_; clear n0_ n1_ n2_ n3_; clear hb hbox hg; have hcz4_0 : w3.cell? ⟨gb179, 0, none⟩ = some (.int .u8 a0_0) := (blk_cell BK179.out 0).trans rfl; have hcz4_1 : w3.cell? ⟨gb179, 1, none⟩ = some (.bool a0_1) := (blk_cell BK179.out 1).trans rfl; have hcz4_2 : w3.cell? ⟨gb179, 2, none⟩ = some (.bool a0_2) := (blk_cell BK179.out 2).trans rfl; have hcz4_3 : w3.cell? ⟨gb179, 3, none⟩ = some (.bool a0_3) := (blk_cell BK179.out 3).trans rfl; have hcz4_4 : w3.cell? ⟨gb179, 4, none⟩ = some (.int .u64 a0_4) := (blk_cell BK179.out 4).trans rfl; have hfz4_0 := blk_frozen BK179.out 0; have hfz4_1 := blk_frozen BK179.out 1; have hfz4_2 := blk_frozen BK179.out 2; have hfz4_3 := blk_frozen BK179.out 3; have hfz4_4 := blk_frozen BK179.out 4))
    go_ret
    exact ⟨by first | rfl | (simp [errW_none, errW_some] <;> rfl) | (simp [*, errW_none, errW_some] <;> rfl), by repeat (first | (with_reducible first | exact HB.out | apply below_alloc | apply pw_below_drewN | apply below_drew1 | refine below_set ?_ GE179.out) | exact HB.out)⟩
  · rw [if_neg c2] at H
    have c2b0 : (a0_0 == 13) = false := beq_eq_false_iff_ne.mpr c2
    have c2b1 : (a0_0 != 13) = true := bne_iff_ne.mpr c2
    by_cases c5 : a0_0 = 11
    · rw [if_pos c5] at H
      have c5b0 : (a0_0 == 11) = true := beq_iff_eq.mpr c5
      have c5b1 : (a0_0 != 11) = false := bne_eq_false_iff_eq.mpr c5
      clear c5
      obtain rfl := Option.some.inj H
      go_enter Try.func11, Try.ntmps11
      go_wp2_with (first | ((with_reducible refine gate_dst (N := 1) rfl ?_); refine box_event ?hg (N := 1) ?hd (cs := #[.int .u8 a0_0, .bool a0_1, .bool a0_2, .bool a0_3, .int .u64 a0_4]) (t := 34) ?hr ?_; (case hd => rfl); (case hg => rfl); (case hr => first | (go_simp; done) | (go_simp; rfl)); intro gb179 hg w6 hbox hb; have n0_ := Aside0.mk (below_step (by repeat (first | (with_reducible first | exact HB.out | apply below_alloc | apply pw_below_drewN | apply below_drew1) | exact HB.out)) hb); have n1_ := Aside0.mk (hbox); have n2_ := Aside0.mk ((by rw [hg]; exact (below_size (by repeat (first | (with_reducible first | exact HB.out | apply below_alloc | apply pw_below_drewN | apply below_drew1) | exact HB.out))) : w.heap.size ≤ gb179)); have n3_ := Aside0.mk ((by rw [hg]; exact (below_size (by repeat (first | (with_reducible first | exact HB.out | apply below_alloc | apply pw_below_drewN | apply below_drew1) | exact HB.out))) : w.heap.size ≤ gb179)); clear HB; have HB := n0_; have BK179 := n1_; have GW179 := n2_; have GE179 := n3_; clear n0_ n1_ n2_ n3_; clear hb hbox hg; have hcz7_0 : w6.cell? ⟨gb179, 0, none⟩ = some (.int .u8 a0_0) := (blk_cell BK179.out 0).trans rfl; have hcz7_1 : w6.cell? ⟨gb179, 1, none⟩ = some (.bool a0_1) := (blk_cell BK179.out 1).trans rfl; have hcz7_2 : w6.cell? ⟨gb179, 2, none⟩ = some (.bool a0_2) := (blk_cell BK179.out 2).trans rfl; have hcz7_3 : w6.cell? ⟨gb179, 3, none⟩ = some (.bool a0_3) := (blk_cell BK179.out 3).trans rfl; have hcz7_4 : w6.cell? ⟨gb179, 4, none⟩ = some (.int .u64 a0_4) := (blk_cell BK179.out 4).trans rfl; have hfz7_0 := blk_frozen BK179.out 0; have hfz7_1 := blk_frozen BK179.out 1; have hfz7_2 := blk_frozen BK179.out 2; have hfz7_3 := blk_frozen BK179.out 3; have hfz7_4 := blk_frozen BK179.out 4))
      go_ret
      exact ⟨by first | rfl | (simp [errW_none, errW_some] <;> rfl) | (simp [*, errW_none, errW_some] <;> rfl), by repeat (first | (with_reducible first | exact HB.out | apply below_alloc | apply pw_below_drewN | apply below_drew1 | refine below_set ?_ GE179.out) | exact HB.out)⟩
    · rw [if_neg c5] at H
      have c5b0 : (a0_0 == 11) = false := beq_eq_false_iff_ne.mpr c5
      have c5b1 : (a0_0 != 11) = true := bne_iff_ne.mpr c5
      by_cases c8 : a0_0 = 7
      · rw [if_pos c8] at H
        have c8b0 : (a0_0 == 7) = true := beq_iff_eq.mpr c8
        have c8b1 : (a0_0 != 7) = false := bne_eq_false_iff_eq.mpr c8
        clear c8
        obtain rfl := Option.some.inj H
        go_enter Try.func11, Try.ntmps11
        go_wp2_with (first | ((with_reducible refine gate_dst (N := 1) rfl ?_); refine box_event ?hg (N := 1) ?hd (cs := #[.int .u8 a0_0, .bool a0_1, .bool a0_2, .bool a0_3, .int .u64 a0_4]) (t := 34) ?hr ?_; (case hd => rfl); (case hg => rfl); (case hr => first | (go_simp; done) | (go_simp; rfl)); intro gb179 hg w9 hbox hb; have n0_ := Aside0.mk (below_step (by repeat (first | (with_reducible first | exact HB.out | apply below_alloc | apply pw_below_drewN | apply below_drew1) | exact HB.out)) hb); have n1_ := Aside0.mk (hbox); have n2_ := Aside0.mk ((by rw [hg]; exact (below_size (by repeat (first | (with_reducible first | exact HB.out | apply below_alloc | apply pw_below_drewN | apply below_drew1) | exact HB.out))) : w.heap.size ≤ gb179)); have n3_ := Aside0.mk ((by rw [hg]; exact (below_size (by repeat (first | (with_reducible first | exact HB.out | apply below_alloc | apply pw_below_drewN | apply below_drew1) | exact HB.out))) : w.heap.size ≤ gb179)); clear HB; have HB := n0_; have BK179 := n1_; have GW179 := n2_; have GE179 := n3_; clear n0_ n1_ n2_ n3_; clear hb hbox hg; have hcz10_0 : w9.cell? ⟨gb179, 0, none⟩ = some (.int .u8 a0_0) := (blk_cell BK179.out 0).trans rfl; have hcz10_1 : w9.cell? ⟨gb179, 1, none⟩ = some (.bool a0_1) := (blk_cell BK179.out 1).trans rfl; have hcz10_2 : w9.cell? ⟨gb179, 2, none⟩ = some (.bool a0_2) := (blk_cell BK179.out 2).trans rfl; have hcz10_3 : w9.cell? ⟨gb179, 3, none⟩ = some (.bool a0_3) := (blk_cell BK179.out 3).trans rfl; have hcz10_4 : w9.cell? ⟨gb179, 4, none⟩ = some (.int .u64 a0_4) := (blk_cell BK179.out 4).trans rfl; have hfz10_0 := blk_frozen BK179.out 0; have hfz10_1 := blk_frozen BK179.out 1; have hfz10_2 := blk_frozen BK179.out 2; have hfz10_3 := blk_frozen BK179.out 3; have hfz10_4 := blk_frozen BK179.out 4))
        go_ret
        exact ⟨by first | rfl | (simp [errW_none, errW_some] <;> rfl) | (simp [*, errW_none, errW_some] <;> rfl), by repeat (first | (with_reducible first | exact HB.out | apply below_alloc | apply pw_below_drewN | apply below_drew1 | refine below_set ?_ GE179.out) | exact HB.out)⟩
      · rw [if_neg c8] at H
        have c8b0 : (a0_0 == 7) = false := beq_eq_false_iff_ne.mpr c8
        have c8b1 : (a0_0 != 7) = true := bne_iff_ne.mpr c8
        have HC11 := Aside0.mk H
        clear H
        go_enter Try.func11, Try.ntmps11
        go_upto_region 7 with (first | ((with_reducible refine gate_dst (N := 1) rfl ?_); refine box_event ?hg (N := 1) ?hd (cs := #[.int .u8 a0_0, .bool a0_1, .bool a0_2, .bool a0_3, .int .u64 a0_4]) (t := 34) ?hr ?_; (case hd => rfl); (case hg => rfl); (case hr => first | (go_simp; done) | (go_simp; rfl)); intro gb179 hg w12 hbox hb; have n0_ := Aside0.mk (below_step (by repeat (first | (with_reducible first | exact HB.out | apply below_alloc | apply pw_below_drewN | apply below_drew1) | exact HB.out)) hb); have n1_ := Aside0.mk (hbox); have n2_ := Aside0.mk ((by rw [hg]; exact (below_size (by repeat (first | (with_reducible first | exact HB.out | apply below_alloc | apply pw_below_drewN | apply below_drew1) | exact HB.out))) : w.heap.size ≤ gb179)); have n3_ := Aside0.mk ((by rw [hg]; exact (below_size (by repeat (first | (with_reducible first | exact HB.out | apply below_alloc | apply pw_below_drewN | apply below_drew1) | exact HB.out))) : w.heap.size ≤ gb179)); clear HB; have HB := n0_; have BK179 := n1_; have GW179 := n2_; have GE179 := n3_; clear n0_ n1_ n2_ n3_; clear hb hbox hg; have hcz13_0 : w12.cell? ⟨gb179, 0, none⟩ = some (.int .u8 a0_0) := (blk_cell BK179.out 0).trans rfl; have hcz13_1 : w12.cell? ⟨gb179, 1, none⟩ = some (.bool a0_1) := (blk_cell BK179.out 1).trans rfl; have hcz13_2 : w12.cell? ⟨gb179, 2, none⟩ = some (.bool a0_2) := (blk_cell BK179.out 2).trans rfl; have hcz13_3 : w12.cell? ⟨gb179, 3, none⟩ = some (.bool a0_3) := (blk_cell BK179.out 3).trans rfl; have hcz13_4 : w12.cell? ⟨gb179, 4, none⟩ = some (.int .u64 a0_4) := (blk_cell BK179.out 4).trans rfl; have hfz13_0 := blk_frozen BK179.out 0; have hfz13_1 := blk_frozen BK179.out 1; have hfz13_2 := blk_frozen BK179.out 2; have hfz13_3 := blk_frozen BK179.out 3; have hfz13_4 := blk_frozen BK179.out 4))
        (try simp only [Act.put, List.setIfInBounds_toArray, List.set_cons_zero, List.set_cons_succ])
        go_cut [18] (fun v18 wc => ∃ (kq : Nat) (x18_10 : Bool), v18 = .bool x18_10 ∧ Aside0 (carouselref12_Of.j0 kq x18_10 a0_0 a0_1 a0_2 a0_3 a0_4 = some r) ∧ Aside0 (kq ≤ k) ∧ Aside0 (wc.heap[gb179]? = some (.cells #[.int .u8 a0_0, .bool a0_1, .bool a0_2, .bool a0_3, .int .u64 a0_4] 34 (0, 0))) ∧ Aside0 (Below w.heap.size w wc))
        case first =>
          have H := HC11.out
          clear HC11
          by_cases c14 : a0_0 = 0
          · rw [if_pos c14] at H
            have c14b0 : (a0_0 == 0) = true := beq_iff_eq.mpr c14
            have c14b1 : (a0_0 != 0) = false := bne_eq_false_iff_eq.mpr c14
            clear c14
            (first | rw [c14b0] | (simp only [i64_w, i32_w]; rw [c14b0]) | skip)
            have H' := Aside0.mk H
            clear H
            have hcz15_0 : w12.cell? ⟨gb179, 0, none⟩ = some (.int .u8 a0_0) := (blk_cell BK179.out 0).trans rfl
            have hcz15_1 : w12.cell? ⟨gb179, 1, none⟩ = some (.bool a0_1) := (blk_cell BK179.out 1).trans rfl
            have hcz15_2 : w12.cell? ⟨gb179, 2, none⟩ = some (.bool a0_2) := (blk_cell BK179.out 2).trans rfl
            have hcz15_3 : w12.cell? ⟨gb179, 3, none⟩ = some (.bool a0_3) := (blk_cell BK179.out 3).trans rfl
            have hcz15_4 : w12.cell? ⟨gb179, 4, none⟩ = some (.int .u64 a0_4) := (blk_cell BK179.out 4).trans rfl
            have hfz15_0 := blk_frozen BK179.out 0
            have hfz15_1 := blk_frozen BK179.out 1
            have hfz15_2 := blk_frozen BK179.out 2
            have hfz15_3 := blk_frozen BK179.out 3
            have hfz15_4 := blk_frozen BK179.out 4
            go_wp2
            go_meet
            case rel => exact ⟨_, (a0_1), (by first | rfl | (simp; done) | (simp [*]; done)), H', ⟨by first | omega | exact Nat.le_refl _⟩, ⟨by (with_reducible repeat (first | refine blk_drewN ?_ _ | refine blk_drew ?_ | refine blk_alloc ?_ _)); exact BK179.out⟩, ⟨by repeat (first | (with_reducible first | exact HB.out | apply below_alloc | apply pw_below_drewN | apply below_drew1 | refine below_set ?_ GE179.out) | exact HB.out)⟩⟩
          · rw [if_neg c14] at H
            have c14b0 : (a0_0 == 0) = false := beq_eq_false_iff_ne.mpr c14
            have c14b1 : (a0_0 != 0) = true := bne_iff_ne.mpr c14
            (first | rw [c14b0] | (simp only [i64_w, i32_w]; rw [c14b0]) | skip)
            have H' := Aside0.mk H
            clear H
            have hcz16_0 : w12.cell? ⟨gb179, 0, none⟩ = some (.int .u8 a0_0) := (blk_cell BK179.out 0).trans rfl
            have hcz16_1 : w12.cell? ⟨gb179, 1, none⟩ = some (.bool a0_1) := (blk_cell BK179.out 1).trans rfl
            have hcz16_2 : w12.cell? ⟨gb179, 2, none⟩ = some (.bool a0_2) := (blk_cell BK179.out 2).trans rfl
            have hcz16_3 : w12.cell? ⟨gb179, 3, none⟩ = some (.bool a0_3) := (blk_cell BK179.out 3).trans rfl
            have hcz16_4 : w12.cell? ⟨gb179, 4, none⟩ = some (.int .u64 a0_4) := (blk_cell BK179.out 4).trans rfl
            have hfz16_0 := blk_frozen BK179.out 0
            have hfz16_1 := blk_frozen BK179.out 1
            have hfz16_2 := blk_frozen BK179.out 2
            have hfz16_3 := blk_frozen BK179.out 3
            have hfz16_4 := blk_frozen BK179.out 4
            go_wp2
            go_meet
            case rel => exact ⟨_, (false), (by first | rfl | (simp; done) | (simp [*]; done)), H', ⟨by first | omega | exact Nat.le_refl _⟩, ⟨by (with_reducible repeat (first | refine blk_drewN ?_ _ | refine blk_drew ?_ | refine blk_alloc ?_ _)); exact BK179.out⟩, ⟨by repeat (first | (with_reducible first | exact HB.out | apply below_alloc | apply pw_below_drewN | apply below_drew1 | refine below_set ?_ GE179.out) | exact HB.out)⟩⟩
        case rest =>
          clear HC11
          try clear c1
          try clear c2
          try clear c2b0
          try clear c2b1
          try clear p2
          try clear c5
          try clear c5b0
          try clear c5b1
          try clear c8
          try clear c8b0
          try clear c8b1
          try clear c11
          try clear c14
          try clear c14b0
          try clear c14b1
          try clear hcz10_0
          try clear hcz10_1
          try clear hcz10_2
          try clear hcz10_3
          try clear hcz10_4
          try clear hcz13_0
          try clear hcz13_1
          try clear hcz13_2
          try clear hcz13_3
          try clear hcz13_4
          try clear hcz15_0
          try clear hcz15_1
          try clear hcz15_2
          try clear hcz15_3
          try clear hcz15_4
          try clear hcz16_0
          try clear hcz16_1
          try clear hcz16_2
          try clear hcz16_3
          try clear hcz16_4
          try clear hcz4_0
          try clear hcz4_1
          try clear hcz4_2
          try clear hcz4_3
          try clear hcz4_4
          try clear hcz7_0
          try clear hcz7_1
          try clear hcz7_2
          try clear hcz7_3
          try clear hcz7_4
          try clear hfz10_0
          try clear hfz10_1
          try clear hfz10_2
          try clear hfz10_3
          try clear hfz10_4
          try clear hfz13_0
          try clear hfz13_1
          try clear hfz13_2
          try clear hfz13_3
          try clear hfz13_4
          try clear hfz15_0
          try clear hfz15_1
          try clear hfz15_2
          try clear hfz15_3
          try clear hfz15_4
          try clear hfz16_0
          try clear hfz16_1
          try clear hfz16_2
          try clear hfz16_3
          try clear hfz16_4
          try clear hfz4_0
          try clear hfz4_1
          try clear hfz4_2
          try clear hfz4_3
          try clear hfz4_4
          try clear hfz7_0
          try clear hfz7_1
          try clear hfz7_2
          try clear hfz7_3
          try clear hfz7_4
          obtain ⟨kq, x18_10, rfl, HA, HJ10, BK179, HB⟩ := hcut
          cases kq with
          | zero => exact absurd HA.out (by simp [carouselref12_Of.j0])
          | succ kj10 =>
            have H := HA.out
            clear HA
            simp only [carouselref12_Of.j0] at H
            by_cases c17 : x18_10 = true
            · subst c17
              have H1 : (some 12) = some r := by rw [if_pos rfl] at H; exact H
              clear H
              have H := H1
              clear H1
              obtain rfl := Option.some.inj H
              go_wp2
              go_ret
              exact ⟨by first | rfl | (simp [errW_none, errW_some] <;> rfl) | (simp [*, errW_none, errW_some] <;> rfl), by repeat (first | (with_reducible first | exact HB.out | apply below_alloc | apply pw_below_drewN | apply below_drew1 | refine below_set ?_ GE179.out) | exact HB.out)⟩
            · replace c17 := Bool.eq_false_iff.mpr c17
              subst c17
              have H1 : (if a0_0 = 0 then (some 13) else (some 14)) = some r := by rw [if_neg (show ¬ (false = true) by decide)] at H; exact H
              clear H
              have H := H1
              clear H1
              by_cases c18 : a0_0 = 0
              · rw [if_pos c18] at H
                have c18b0 : (a0_0 == 0) = true := beq_iff_eq.mpr c18
                have c18b1 : (a0_0 != 0) = false := bne_eq_false_iff_eq.mpr c18
                clear c18
                obtain rfl := Option.some.inj H
                have hcz19_0 : wc.cell? ⟨gb179, 0, none⟩ = some (.int .u8 a0_0) := (blk_cell BK179.out 0).trans rfl
                have hcz19_1 : wc.cell? ⟨gb179, 1, none⟩ = some (.bool a0_1) := (blk_cell BK179.out 1).trans rfl
                have hcz19_2 : wc.cell? ⟨gb179, 2, none⟩ = some (.bool a0_2) := (blk_cell BK179.out 2).trans rfl
                have hcz19_3 : wc.cell? ⟨gb179, 3, none⟩ = some (.bool a0_3) := (blk_cell BK179.out 3).trans rfl
                have hcz19_4 : wc.cell? ⟨gb179, 4, none⟩ = some (.int .u64 a0_4) := (blk_cell BK179.out 4).trans rfl
                have hfz19_0 := blk_frozen BK179.out 0
                have hfz19_1 := blk_frozen BK179.out 1
                have hfz19_2 := blk_frozen BK179.out 2
                have hfz19_3 := blk_frozen BK179.out 3
                have hfz19_4 := blk_frozen BK179.out 4
                go_wp2
                go_ret
                exact ⟨by first | rfl | (simp [errW_none, errW_some] <;> rfl) | (simp [*, errW_none, errW_some] <;> rfl), by repeat (first | (with_reducible first | exact HB.out | apply below_alloc | apply pw_below_drewN | apply below_drew1 | refine below_set ?_ GE179.out) | exact HB.out)⟩
              · rw [if_neg c18] at H
                have c18b0 : (a0_0 == 0) = false := beq_eq_false_iff_ne.mpr c18
                have c18b1 : (a0_0 != 0) = true := bne_iff_ne.mpr c18
                obtain rfl := Option.some.inj H
                have hcz20_0 : wc.cell? ⟨gb179, 0, none⟩ = some (.int .u8 a0_0) := (blk_cell BK179.out 0).trans rfl
                have hcz20_1 : wc.cell? ⟨gb179, 1, none⟩ = some (.bool a0_1) := (blk_cell BK179.out 1).trans rfl
                have hcz20_2 : wc.cell? ⟨gb179, 2, none⟩ = some (.bool a0_2) := (blk_cell BK179.out 2).trans rfl
                have hcz20_3 : wc.cell? ⟨gb179, 3, none⟩ = some (.bool a0_3) := (blk_cell BK179.out 3).trans rfl
                have hcz20_4 : wc.cell? ⟨gb179, 4, none⟩ = some (.int .u64 a0_4) := (blk_cell BK179.out 4).trans rfl
                have hfz20_0 := blk_frozen BK179.out 0
                have hfz20_1 := blk_frozen BK179.out 1
                have hfz20_2 := blk_frozen BK179.out 2
                have hfz20_3 := blk_frozen BK179.out 3
                have hfz20_4 := blk_frozen BK179.out 4
                go_wp2
                go_ret
                exact ⟨by first | rfl | (simp [errW_none, errW_some] <;> rfl) | (simp [*, errW_none, errW_some] <;> rfl), by repeat (first | (with_reducible first | exact HB.out | apply below_alloc | apply pw_below_drewN | apply below_drew1 | refine below_set ?_ GE179.out) | exact HB.out)⟩

/-! ### carousellaw05_Of: function 12 -/
def carousellaw05_Of.f (a0_0 : Int) (a0_1 : Bool) (a0_2 : Bool) (a0_3 : Bool) (a0_4 : Int) : Option (Int × Bool × Bool × Bool × Int) := some (a0_0, a0_1, a0_2, a0_3, a0_4)
set_option maxHeartbeats 8000000 in
set_option maxRecDepth 100000 in
theorem carousellaw05_Of.calls (a0_0 : Int) (a0_1 : Bool) (a0_2 : Bool) (a0_3 : Bool) (a0_4 : Int) (r1 : Int) (r2 : Bool) (r3 : Bool) (r4 : Bool) (r5 : Int) (w : World) (h : carousellaw05_Of.f a0_0 a0_1 a0_2 a0_3 a0_4 = some (r1, r2, r3, r4, r5)) :
    Calls Try.prog 12 #[.agg #[.int .u8 a0_0, .bool a0_1, .bool a0_2, .bool a0_3, .int .u64 a0_4]] w fun e w' => e = .returned (.agg #[.int .u8 r1, .bool r2, .bool r3, .bool r4, .int .u64 r5]) ∧ Below w.heap.size w w' := by
  have hu26 := Try.underlying26
  have hu34 := Try.underlying34
  have HB := Aside0.mk (Below.refl w.heap.size w)
  have H : (some (a0_0, a0_1, a0_2, a0_3, a0_4)) = some (r1, r2, r3, r4, r5) := h
  clear h
  simp only [Option.some.injEq, Prod.mk.injEq] at H
  obtain ⟨rfl, rfl, rfl, rfl, rfl⟩ := H
  go_enter Try.func12, Try.ntmps12
  go_wp2_with (first | ((with_reducible refine gate_dst (N := 1) rfl ?_); refine box_event ?hg (N := 1) ?hd (cs := #[.int .u8 a0_0, .bool a0_1, .bool a0_2, .bool a0_3, .int .u64 a0_4]) (t := 26) ?hr ?_; (case hd => rfl); (case hg => rfl); (case hr => first | (go_simp; done) | (go_simp; rfl)); intro gb180 hg w2 hbox hb; have n0_ := Aside0.mk (below_step (by repeat (first | (with_reducible first | exact HB.out | apply below_alloc | apply pw_below_drewN | apply below_drew1) | exact HB.out)) hb); have n1_ := Aside0.mk (hbox); have n2_ := Aside0.mk ((by rw [hg]; exact (below_size (by repeat (first | (with_reducible first | exact HB.out | apply below_alloc | apply pw_below_drewN | apply below_drew1) | exact HB.out))) : w.heap.size ≤ gb180)); have n3_ := Aside0.mk ((by rw [hg]; exact (below_size (by repeat (first | (with_reducible first | exact HB.out | apply below_alloc | apply pw_below_drewN | apply below_drew1) | exact HB.out))) : w.heap.size ≤ gb180)); clear HB; have HB := n0_; have BK180 := n1_; have GW180 := n2_; have GE180 := n3_; clear n0_ n1_ n2_ n3_; clear hb hbox hg) | ((with_reducible refine gate_dst (N := 2) rfl ?_); refine box_event ?hg (N := 2) ?hd (cs := #[.int .u8 0, .bool false, .bool false, .bool false, .int .u64 0]) (t := 34) ?hr ?_; (case hd => rfl); (case hg => rfl); (case hr => first | (go_simp; done) | (go_simp; rfl)); intro gb181 hg w3 hbox hb; have n0_ := Aside0.mk (blk_below (g := gb180) (o := .cells #[.int .u8 a0_0, .bool a0_1, .bool a0_2, .bool a0_3, .int .u64 a0_4] 26 (0, 0)) (by (with_reducible repeat (first | refine blk_drewN ?_ _ | refine blk_drew ?_ | refine blk_alloc ?_ _)); exact BK180.out) hb); have n1_ := Aside0.mk (below_step (by repeat (first | (with_reducible first | exact HB.out | apply below_alloc | apply pw_below_drewN | apply below_drew1 | refine below_set ?_ GE180.out) | exact HB.out)) hb); have n2_ := Aside0.mk (hbox); have n3_ := Aside0.mk ((by rw [hg]; exact (below_size (by repeat (first | (with_reducible first | exact HB.out | apply below_alloc | apply pw_below_drewN | apply below_drew1 | refine below_set ?_ GE180.out) | exact HB.out))) : w.heap.size ≤ gb181)); have n4_ := Aside0.mk ((by rw [hg]; exact (below_size (by repeat (first | (with_reducible first | exact HB.out | apply below_alloc | apply pw_below_drewN | apply below_drew1 | refine below_set ?_ GE180.out) | exact HB.out))) : w.heap.size ≤ gb181)); have n5_ := Aside0.mk ((by rw [hg]; exact Nat.ne_of_lt (blk_lt (g := gb180) (o := .cells #[.int .u8 a0_0, .bool a0_1, .bool a0_2, .bool a0_3, .int .u64 a0_4] 26 (0, 0)) (by (with_reducible repeat (first | refine blk_drewN ?_ _ | refine blk_drew ?_ | refine blk_alloc ?_ _)); exact BK180.out)) : gb180 ≠ gb181)); have n6_ := Aside0.mk ((by rw [hg]; exact Nat.ne_of_gt (blk_lt (g := gb180) (o := .cells #[.int .u8 a0_0, .bool a0_1, .bool a0_2, .bool a0_3, .int .u64 a0_4] 26 (0, 0)) (by (with_reducible repeat (first | refine blk_drewN ?_ _ | refine blk_drew ?_ | refine blk_alloc ?_ _)); exact BK180.out)) : gb181 ≠ gb180)); clear BK180; clear HB; have BK180 := n0_; have HB := n1_; have BK181 := n2_; have GW181 := n3_; have GE181 := n4_; have NB180_181 := n5_; have NB181_180 := n6_; clear n0_ n1_ n2_ n3_ n4_ n5_ n6_; clear hb hbox hg; have hnb4 := NB180_181.out; have hnc4 := NB181_180.out; have hcz5_0 : w3.cell? ⟨gb180, 0, none⟩ = some (.int .u8 a0_0) := (blk_cell BK180.out 0).trans rfl; have hcz5_1 : w3.cell? ⟨gb180, 1, none⟩ = some (.bool a0_1) := (blk_cell BK180.out 1).trans rfl; have hcz5_2 : w3.cell? ⟨gb180, 2, none⟩ = some (.bool a0_2) := (blk_cell BK180.out 2).trans rfl; have hcz5_3 : w3.cell? ⟨gb180, 3, none⟩ = some (.bool a0_3) := (blk_cell BK180.out 3).trans rfl; have hcz5_4 : w3.cell? ⟨gb180, 4, none⟩ = some (.int .u64 a0_4) := (blk_cell BK180.out 4).trans rfl; have hfz5_0 := blk_frozen BK180.out 0; have hfz5_1 := blk_frozen BK180.out 1; have hfz5_2 := blk_frozen BK180.out 2; have hfz5_3 := blk_frozen BK180.out 3; have hfz5_4 := blk_frozen BK180.out 4; have hcz6_0 : w3.cell? ⟨gb181, 0, none⟩ = some (.int .u8 0) := (blk_cell BK181.out 0).trans rfl; have hcz6_1 : w3.cell? ⟨gb181, 1, none⟩ = some (.bool false) := (blk_cell BK181.out 1).trans rfl; have hcz6_2 : w3.cell? ⟨gb181, 2, none⟩ = some (.bool false) := (blk_cell BK181.out 2).trans rfl; have hcz6_3 : w3.cell? ⟨gb181, 3, none⟩ = some (.bool false) := (blk_cell BK181.out 3).trans rfl; have hcz6_4 : w3.cell? ⟨gb181, 4, none⟩ = some (.int .u64 0) := (blk_cell BK181.out 4).trans rfl; have hfz6_0 := blk_frozen BK181.out 0; have hfz6_1 := blk_frozen BK181.out 1; have hfz6_2 := blk_frozen BK181.out 2; have hfz6_3 := blk_frozen BK181.out 3; have hfz6_4 := blk_frozen BK181.out 4))
  refine bodyPost_ret (results_cell_row rfl _ _ gb181 34 #[.int .u8 a0_0, .bool a0_1, .bool a0_2, .bool a0_3, .int .u64 a0_4] (0, 0) _ rfl (by (with_reducible repeat (first | refine blk_drewN ?_ _ | refine blk_drew ?_ | refine blk_alloc ?_ _)); refine blk_put (cs := #[.int .u8 a0_0, .bool a0_1, .bool a0_2, .bool a0_3, .int .u64 0]) ?_ 4 _ rfl; (with_reducible repeat (first | refine blk_drewN ?_ _ | refine blk_drew ?_ | refine blk_alloc ?_ _)); refine blk_put (cs := #[.int .u8 a0_0, .bool a0_1, .bool a0_2, .bool false, .int .u64 0]) ?_ 3 _ rfl; (with_reducible repeat (first | refine blk_drewN ?_ _ | refine blk_drew ?_ | refine blk_alloc ?_ _)); refine blk_put (cs := #[.int .u8 a0_0, .bool a0_1, .bool false, .bool false, .int .u64 0]) ?_ 2 _ rfl; (with_reducible repeat (first | refine blk_drewN ?_ _ | refine blk_drew ?_ | refine blk_alloc ?_ _)); refine blk_put (cs := #[.int .u8 a0_0, .bool false, .bool false, .bool false, .int .u64 0]) ?_ 1 _ rfl; (with_reducible repeat (first | refine blk_drewN ?_ _ | refine blk_drew ?_ | refine blk_alloc ?_ _)); refine blk_put (cs := #[.int .u8 0, .bool false, .bool false, .bool false, .int .u64 0]) ?_ 0 _ rfl; (with_reducible repeat (first | refine blk_drewN ?_ _ | refine blk_drew ?_ | refine blk_alloc ?_ _)); exact BK181.out) Try.underlying34 rfl (by kernel_rfl)) rfl ?_
  exact ⟨by first | rfl | (simp [errW_none, errW_some] <;> rfl) | (simp [*, errW_none, errW_some] <;> rfl), by repeat (first | (with_reducible first | exact HB.out | apply below_alloc | apply pw_below_drewN | apply below_drew1 | refine below_set ?_ GE180.out | refine below_set ?_ GE181.out) | exact HB.out)⟩

end Go.Proofs.Ytmdaaphjndjakaf.PReqTells
