-- Written by a program of this work, after the translation.
import Derived.Test.YtmdaaphjndjakaePReqKindsx0
import Derived.Test.YtmdaaphjndjakaePReqKindsx1
import Derived.Test.YtmdaaphjndjakaePReqKindsx4
namespace Go.Proofs.Ytmdaaphjndjakae.PReqKinds
open Go.RowKit Go.Proofs.YtmdaaphjndjakaeW.PrintWords Go.Proofs.YtmdaaphjndjakaeW.PrintLast Go.Proofs.YtmdaaphjndjakaeW.PrintMore
attribute [local go_sem] max2_int min2_int max_two min_two max_three min_three max_four min_four   -- for this text's walks alone
set_option linter.unusedVariables false
set_option linter.unusedSimpArgs false

/-! ### carousellaw12_ReqKinds: function 5 -/
def carousellaw12_ReqKinds.f (k : Nat) (a0 : Int) (a1 : Int) : Option (Bool) := (carousellaw12_Awake.f k).bind fun t189 => (if t189 = true then ((req_Kind_May.f a0).bind fun t190 => ((carouselref12_May.f a0).bind fun t191 => (if (t190 == t191) = true then ((req_Kind_Remote.f k a0).bind fun t192 => ((carouselref12_Remote.f a0).bind fun t193 => (if (t192 == t193) = true then ((req_Kind_String.f a0).bind fun t194 => ((carouselref12_Word.f a0).bind fun t195 => (if t194.toList = t195.toList then ((req_Kind_Above.f a0 a1).bind fun t196 => ((carouselref12_Above.f a0 a1).bind fun t197 => (if (t196 == t197) = true then ((req_Kind_Above.f a1 a0).bind fun t198 => ((carouselref12_Above.f a1 a0).bind fun t199 => (some (t198 == t199)))) else (some false)))) else (some false)))) else (some false)))) else (some false)))) else (some false))
theorem carousellaw12_ReqKinds.mono : ∀ a0 a1 k, LeO (carousellaw12_ReqKinds.f k a0 a1) (carousellaw12_ReqKinds.f (k + 1) a0 a1) := by
  intro a0 a1 k
  unfold carousellaw12_ReqKinds.f
  repeat' first
      | (with_reducible exact carousellaw12_Awake.mono _)
      | (with_reducible exact req_Kind_Remote.mono _ _)
      | (with_reducible exact LeO.refl _)
      | (with_reducible exact LeO.none _)
      | (with_reducible refine LeO.ite ?_ ?_)
      | (with_reducible refine LeO.bind ?_ (fun _ => ?_))
      | exact carousellaw12_Awake.mono _
      | exact req_Kind_Remote.mono _ _
      | exact LeO.none _
      | refine LeO.ite ?_ ?_
      | refine LeO.bind ?_ (fun _ => ?_)
set_option maxHeartbeats 8000000 in
set_option maxRecDepth 100000 in
theorem carousellaw12_ReqKinds.calls (k : Nat) (a0 : Int) (a1 : Int) (r : Bool) (w : World) (h : carousellaw12_ReqKinds.f k a0 a1 = some r) (hT : r = true) :
    Calls Try.prog 5 #[.int .i64 a0, .int .i64 a1] w fun e w' => e = .returned (.bool r) ∧ Below w.heap.size w w' := by
  have HB := Aside0.mk (Below.refl w.heap.size w)
  have H : ((carousellaw12_Awake.f k).bind fun t189 => (if t189 = true then ((req_Kind_May.f a0).bind fun t190 => ((carouselref12_May.f a0).bind fun t191 => (if (t190 == t191) = true then ((req_Kind_Remote.f k a0).bind fun t192 => ((carouselref12_Remote.f a0).bind fun t193 => (if (t192 == t193) = true then ((req_Kind_String.f a0).bind fun t194 => ((carouselref12_Word.f a0).bind fun t195 => (if t194.toList = t195.toList then ((req_Kind_Above.f a0 a1).bind fun t196 => ((carouselref12_Above.f a0 a1).bind fun t197 => (if (t196 == t197) = true then ((req_Kind_Above.f a1 a0).bind fun t198 => ((carouselref12_Above.f a1 a0).bind fun t199 => (some (t198 == t199)))) else (some false)))) else (some false)))) else (some false)))) else (some false)))) else (some false))) = some r := h
  clear h
  replace H := Option.bind_eq_some_iff.mp H
  obtain ⟨t189, A30, H⟩ := H
  replace H : (if t189 = true then ((req_Kind_May.f a0).bind fun t190 => ((carouselref12_May.f a0).bind fun t191 => (if (t190 == t191) = true then ((req_Kind_Remote.f k a0).bind fun t192 => ((carouselref12_Remote.f a0).bind fun t193 => (if (t192 == t193) = true then ((req_Kind_String.f a0).bind fun t194 => ((carouselref12_Word.f a0).bind fun t195 => (if t194.toList = t195.toList then ((req_Kind_Above.f a0 a1).bind fun t196 => ((carouselref12_Above.f a0 a1).bind fun t197 => (if (t196 == t197) = true then ((req_Kind_Above.f a1 a0).bind fun t198 => ((carouselref12_Above.f a1 a0).bind fun t199 => (some (t198 == t199)))) else (some false)))) else (some false)))) else (some false)))) else (some false)))) else (some false)) = some r := H
  have A3 := Aside0.mk A30
  clear A30
  by_cases c4 : t189 = true
  · subst c4
    have H1 : ((req_Kind_May.f a0).bind fun t190 => ((carouselref12_May.f a0).bind fun t191 => (if (t190 == t191) = true then ((req_Kind_Remote.f k a0).bind fun t192 => ((carouselref12_Remote.f a0).bind fun t193 => (if (t192 == t193) = true then ((req_Kind_String.f a0).bind fun t194 => ((carouselref12_Word.f a0).bind fun t195 => (if t194.toList = t195.toList then ((req_Kind_Above.f a0 a1).bind fun t196 => ((carouselref12_Above.f a0 a1).bind fun t197 => (if (t196 == t197) = true then ((req_Kind_Above.f a1 a0).bind fun t198 => ((carouselref12_Above.f a1 a0).bind fun t199 => (some (t198 == t199)))) else (some false)))) else (some false)))) else (some false)))) else (some false)))) = some r := by rw [if_pos rfl] at H; exact H
    clear H
    have H := H1
    clear H1
    replace H := Option.bind_eq_some_iff.mp H
    obtain ⟨t190, A50, H⟩ := H
    replace H : ((carouselref12_May.f a0).bind fun t191 => (if (t190 == t191) = true then ((req_Kind_Remote.f k a0).bind fun t192 => ((carouselref12_Remote.f a0).bind fun t193 => (if (t192 == t193) = true then ((req_Kind_String.f a0).bind fun t194 => ((carouselref12_Word.f a0).bind fun t195 => (if t194.toList = t195.toList then ((req_Kind_Above.f a0 a1).bind fun t196 => ((carouselref12_Above.f a0 a1).bind fun t197 => (if (t196 == t197) = true then ((req_Kind_Above.f a1 a0).bind fun t198 => ((carouselref12_Above.f a1 a0).bind fun t199 => (some (t198 == t199)))) else (some false)))) else (some false)))) else (some false)))) else (some false))) = some r := H
    have A5 := Aside0.mk A50
    clear A50
    replace H := Option.bind_eq_some_iff.mp H
    obtain ⟨t191, A60, H⟩ := H
    replace H : (if (t190 == t191) = true then ((req_Kind_Remote.f k a0).bind fun t192 => ((carouselref12_Remote.f a0).bind fun t193 => (if (t192 == t193) = true then ((req_Kind_String.f a0).bind fun t194 => ((carouselref12_Word.f a0).bind fun t195 => (if t194.toList = t195.toList then ((req_Kind_Above.f a0 a1).bind fun t196 => ((carouselref12_Above.f a0 a1).bind fun t197 => (if (t196 == t197) = true then ((req_Kind_Above.f a1 a0).bind fun t198 => ((carouselref12_Above.f a1 a0).bind fun t199 => (some (t198 == t199)))) else (some false)))) else (some false)))) else (some false)))) else (some false)) = some r := H
    have A6 := Aside0.mk A60
    clear A60
    by_cases c7 : (t190 == t191) = true
    · rw [if_pos c7] at H
      have c7b0 : (t190 == t191) = true := c7
      (try (have c7b1 : decide (t190 = t191) = true := by simpa using c7))
      (try (have c7b2 : (t190 == t191) = true := by simpa using c7))
      clear c7
      replace H := Option.bind_eq_some_iff.mp H
      obtain ⟨t192, A80, H⟩ := H
      replace H : ((carouselref12_Remote.f a0).bind fun t193 => (if (t192 == t193) = true then ((req_Kind_String.f a0).bind fun t194 => ((carouselref12_Word.f a0).bind fun t195 => (if t194.toList = t195.toList then ((req_Kind_Above.f a0 a1).bind fun t196 => ((carouselref12_Above.f a0 a1).bind fun t197 => (if (t196 == t197) = true then ((req_Kind_Above.f a1 a0).bind fun t198 => ((carouselref12_Above.f a1 a0).bind fun t199 => (some (t198 == t199)))) else (some false)))) else (some false)))) else (some false))) = some r := H
      have A8 := Aside0.mk A80
      clear A80
      replace H := Option.bind_eq_some_iff.mp H
      obtain ⟨t193, A90, H⟩ := H
      replace H : (if (t192 == t193) = true then ((req_Kind_String.f a0).bind fun t194 => ((carouselref12_Word.f a0).bind fun t195 => (if t194.toList = t195.toList then ((req_Kind_Above.f a0 a1).bind fun t196 => ((carouselref12_Above.f a0 a1).bind fun t197 => (if (t196 == t197) = true then ((req_Kind_Above.f a1 a0).bind fun t198 => ((carouselref12_Above.f a1 a0).bind fun t199 => (some (t198 == t199)))) else (some false)))) else (some false)))) else (some false)) = some r := H
      have A9 := Aside0.mk A90
      clear A90
      by_cases c10 : (t192 == t193) = true
      · rw [if_pos c10] at H
        have c10b0 : (t192 == t193) = true := c10
        (try (have c10b1 : decide (t192 = t193) = true := by simpa using c10))
        (try (have c10b2 : (t192 == t193) = true := by simpa using c10))
        clear c10
        replace H := Option.bind_eq_some_iff.mp H
        obtain ⟨t194, A110, H⟩ := H
        replace H : ((carouselref12_Word.f a0).bind fun t195 => (if t194.toList = t195.toList then ((req_Kind_Above.f a0 a1).bind fun t196 => ((carouselref12_Above.f a0 a1).bind fun t197 => (if (t196 == t197) = true then ((req_Kind_Above.f a1 a0).bind fun t198 => ((carouselref12_Above.f a1 a0).bind fun t199 => (some (t198 == t199)))) else (some false)))) else (some false))) = some r := H
        have A11 := Aside0.mk A110
        clear A110
        replace H := Option.bind_eq_some_iff.mp H
        obtain ⟨t195, A120, H⟩ := H
        replace H : (if t194.toList = t195.toList then ((req_Kind_Above.f a0 a1).bind fun t196 => ((carouselref12_Above.f a0 a1).bind fun t197 => (if (t196 == t197) = true then ((req_Kind_Above.f a1 a0).bind fun t198 => ((carouselref12_Above.f a1 a0).bind fun t199 => (some (t198 == t199)))) else (some false)))) else (some false)) = some r := H
        have A12 := Aside0.mk A120
        clear A120
        by_cases c13 : t194.toList = t195.toList
        · rw [if_pos c13] at H
          have c13b0 : (t194.toList == t195.toList) = true := beq_iff_eq.mpr c13
          have c13b1 : (t194.toList != t195.toList) = false := bne_eq_false_iff_eq.mpr c13
          clear c13
          replace H := Option.bind_eq_some_iff.mp H
          obtain ⟨t196, A140, H⟩ := H
          replace H : ((carouselref12_Above.f a0 a1).bind fun t197 => (if (t196 == t197) = true then ((req_Kind_Above.f a1 a0).bind fun t198 => ((carouselref12_Above.f a1 a0).bind fun t199 => (some (t198 == t199)))) else (some false))) = some r := H
          have A14 := Aside0.mk A140
          clear A140
          replace H := Option.bind_eq_some_iff.mp H
          obtain ⟨t197, A150, H⟩ := H
          replace H : (if (t196 == t197) = true then ((req_Kind_Above.f a1 a0).bind fun t198 => ((carouselref12_Above.f a1 a0).bind fun t199 => (some (t198 == t199)))) else (some false)) = some r := H
          have A15 := Aside0.mk A150
          clear A150
          by_cases c16 : (t196 == t197) = true
          · rw [if_pos c16] at H
            have c16b0 : (t196 == t197) = true := c16
            (try (have c16b1 : decide (t196 = t197) = true := by simpa using c16))
            (try (have c16b2 : (t196 == t197) = true := by simpa using c16))
            clear c16
            replace H := Option.bind_eq_some_iff.mp H
            obtain ⟨t198, A170, H⟩ := H
            replace H : ((carouselref12_Above.f a1 a0).bind fun t199 => (some (t198 == t199))) = some r := H
            have A17 := Aside0.mk A170
            clear A170
            replace H := Option.bind_eq_some_iff.mp H
            obtain ⟨t199, A180, H⟩ := H
            replace H : (some (t198 == t199)) = some r := H
            have A18 := Aside0.mk A180
            clear A180
            obtain rfl := Option.some.inj H
            go_enter Try.func5, Try.ntmps5
            go_wp2_with (first | ((with_reducible refine gate_callee (f := 14) rfl ?_); refine goesL_ (some 9) rfl rfl Try.func14 (by kernel_rfl) rfl #[] rfl (by (try simp only [List.map_toArray, List.map_cons, List.map_nil]); first | done | rfl | (simp only [List.length_drop, List.length_take]; rfl)) ?_; (with_reducible refine (carousellaw12_Awake.calls k  true _ A3.out).mono ?_); rintro e w19 ⟨rfl, hb⟩; refine ⟨_, rfl, ?_⟩; have n0_ := Aside0.mk (below_step (by repeat (first | (with_reducible first | exact HB.out | apply below_alloc | apply pw_below_drewN | apply below_drew1) | exact HB.out)) hb); clear HB; have HB := n0_; clear n0_; (try clear hb); (try clear hb2); (try clear hk); (try clear hi)) | (go_at_call 15; (with_reducible refine (req_Kind_May.calls a0 t190 _ A5.out).mono ?_); rintro e w' ⟨rfl, ⟨nd, rfl⟩⟩) | (go_at_call 16; (with_reducible refine (carouselref12_May.calls a0 t191 _ A6.out).mono ?_); rintro e w' ⟨rfl, ⟨nd, rfl⟩⟩) | (go_at_call 17; (with_reducible refine (req_Kind_Remote.calls k a0 t192 _ A8.out).mono ?_); rintro e w' ⟨rfl, ⟨nd, rfl⟩⟩) | (go_at_call 18; (with_reducible refine (carouselref12_Remote.calls a0 t193 _ A9.out).mono ?_); rintro e w20 ⟨rfl, hb⟩; have n0_ := Aside0.mk (below_step (by repeat (first | (with_reducible first | exact HB.out | apply below_alloc | apply pw_below_drewN | apply below_drew1) | exact HB.out)) hb); clear HB; have HB := n0_; clear n0_; (try clear hb); (try clear hb2); (try clear hk); (try clear hi)) | (go_at_call 19; (with_reducible refine (req_Kind_String.calls a0 t194 _ A11.out).mono ?_); rintro e w21 ⟨rfl, hb⟩; have n0_ := Aside0.mk (below_step (by repeat (first | (with_reducible first | exact HB.out | apply below_alloc | apply pw_below_drewN | apply below_drew1) | exact HB.out)) hb); clear HB; have HB := n0_; clear n0_; (try clear hb); (try clear hb2); (try clear hk); (try clear hi)) | (go_at_call 20; (with_reducible refine (carouselref12_Word.calls a0 t195 _ A12.out).mono ?_); rintro e w22 ⟨rfl, hb⟩; have n0_ := Aside0.mk (below_step (by repeat (first | (with_reducible first | exact HB.out | apply below_alloc | apply pw_below_drewN | apply below_drew1) | exact HB.out)) hb); clear HB; have HB := n0_; clear n0_; (try clear hb); (try clear hb2); (try clear hk); (try clear hi)) | (go_at_call 21; (with_reducible refine (req_Kind_Above.calls a0 a1 t196 _ A14.out).mono ?_); rintro e w' ⟨rfl, ⟨nd, rfl⟩⟩) | (go_at_call 22; (with_reducible refine (carouselref12_Above.calls a0 a1 t197 _ A15.out).mono ?_); rintro e w' ⟨rfl, ⟨nd, rfl⟩⟩) | (go_at_call 21; (with_reducible refine (req_Kind_Above.calls a1 a0 t198 _ A17.out).mono ?_); rintro e w' ⟨rfl, ⟨nd, rfl⟩⟩) | (go_at_call 22; (with_reducible refine (carouselref12_Above.calls a1 a0 t199 _ A18.out).mono ?_); rintro e w' ⟨rfl, ⟨nd, rfl⟩⟩))
            go_ret
            exact ⟨by first | rfl | (simp [errW_none, errW_some] <;> rfl) | (simp [*, errW_none, errW_some] <;> rfl), by repeat (first | (with_reducible first | exact HB.out | apply below_alloc | apply pw_below_drewN | apply below_drew1) | exact HB.out)⟩
          · rw [if_neg c16] at H
            have c16b0 : (t196 == t197) = false := by simpa using c16
            (try (have c16b1 : decide (t196 = t197) = false := by simpa using c16))
            (try (have c16b2 : (t196 == t197) = false := by simpa using c16))
            (try (have c16b3 : ¬ (t196 = t197) := by simpa using c16))
            clear c16
            cases (Option.some.inj H).trans hT
        · rw [if_neg c13] at H
          have c13b0 : (t194.toList == t195.toList) = false := beq_eq_false_iff_ne.mpr c13
          have c13b1 : (t194.toList != t195.toList) = true := bne_iff_ne.mpr c13
          cases (Option.some.inj H).trans hT
      · rw [if_neg c10] at H
        have c10b0 : (t192 == t193) = false := by simpa using c10
        (try (have c10b1 : decide (t192 = t193) = false := by simpa using c10))
        (try (have c10b2 : (t192 == t193) = false := by simpa using c10))
        (try (have c10b3 : ¬ (t192 = t193) := by simpa using c10))
        clear c10
        cases (Option.some.inj H).trans hT
    · rw [if_neg c7] at H
      have c7b0 : (t190 == t191) = false := by simpa using c7
      (try (have c7b1 : decide (t190 = t191) = false := by simpa using c7))
      (try (have c7b2 : (t190 == t191) = false := by simpa using c7))
      (try (have c7b3 : ¬ (t190 = t191) := by simpa using c7))
      clear c7
      cases (Option.some.inj H).trans hT
  · replace c4 := Bool.eq_false_iff.mpr c4
    subst c4
    have H1 : (some false) = some r := by rw [if_neg (show ¬ (false = true) by decide)] at H; exact H
    clear H
    have H := H1
    clear H1
    cases (Option.some.inj H).trans hT

/-- THE ONE PURE STATEMENT of carousellaw12_ReqKinds: yours. -/
def carousellaw12_ReqKinds.Pure : Prop := ∀ (a0 : Int) (a1 : Int), (Lit.int .i64 a0).wf = true → (Lit.int .i64 a1).wf = true → ∃ k, carousellaw12_ReqKinds.f k a0 a1 = some true
theorem carousellaw12_ReqKinds.walk (P : carousellaw12_ReqKinds.Pure) (a0 : Int) (a1 : Int) (w : World) (w0_0 : (Lit.int .i64 a0).wf = true) (w1_0 : (Lit.int .i64 a1).wf = true) :
    Calls Try.prog 5 #[.int .i64 a0, .int .i64 a1] w fun e w' => e = .returned (.bool true) ∧ Below w.heap.size w w' := by
  obtain ⟨k, h⟩ := P a0 a1 w0_0 w1_0
  refine (carousellaw12_ReqKinds.calls k a0 a1 true w h rfl).mono ?_
  rintro e w' ⟨rfl, hd⟩
  exact ⟨rfl, hd⟩

end Go.Proofs.Ytmdaaphjndjakae.PReqKinds
