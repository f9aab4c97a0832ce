-- Written by a program of this work, after the translation.
import Derived.Test.YtkjjdphlfbecdaaPAllx0
import Derived.Test.YtkjjdphlfbecdaaPAllx3
import Derived.Test.YtkjjdphlfbecdaaPAllx4
import Derived.Test.YtkjjdphlfbecdaaPAllx5
namespace Go.Proofs.Ytkjjdphlfbecdaa.PAll
open Go.RowKit Go.Proofs.YtkjjdphlfbecdaaW.PrintWords Go.Proofs.YtkjjdphlfbecdaaW.PrintLast Go.Proofs.YtkjjdphlfbecdaaW.PrintMore
attribute [local go_sem] max2_int min2_int max_two min_two max_three min_three max_four min_four   -- for this text's walks alone
set_option linter.unusedVariables false
set_option linter.unusedSimpArgs false

/-! ### carousellaw22_EventFull: function 6 -/
def carousellaw22_EventFull.f (a0 : Int) : Option (Bool) := if 0 ≤ (wrap64 (9990 + (wrap64 (Int.tmod a0 20)))) then (if (wrap64 (9990 + (wrap64 (Int.tmod a0 20))) : Int).toNat ≤ 11728124029610 then ((event_Close.f (List.replicate (wrap64 (9990 + (wrap64 (Int.tmod a0 20))) : Int).toNat z28)).bind fun bt182 => (if 0 ≤ (wrap64 (6 * (wrap64 (9990 + (wrap64 (Int.tmod a0 20)))))) then (if (wrap64 (6 * (wrap64 (9990 + (wrap64 (Int.tmod a0 20))))) : Int).toNat ≤ 281474976710656 then ((event_Open.f (strOfNums (List.replicate (wrap64 (6 * (wrap64 (9990 + (wrap64 (Int.tmod a0 20))))) : Int).toNat 0))).bind fun bt187 => (if (wrap64 (9990 + (wrap64 (Int.tmod a0 20)))) > 10000 then ((carousellaw22_Awake.f).bind fun t191 => (if t191 = true then (if bt182.2 = 9 then (if bt187.2 = 9 then (some ((bt187.1.length : Int) == 0)) else (some false)) else (some false)) else (some false))) else ((carousellaw22_Awake.f).bind fun t192 => (if t192 = true then (if bt182.2 = 0 then (if bt187.2 = 0 then (some ((bt187.1.length : Int) == (wrap64 (9990 + (wrap64 (Int.tmod a0 20)))))) else (some false)) else (some false)) else (some false))))) else (none)) else (none))) else (none)) else (none)
set_option maxHeartbeats 8000000 in
set_option maxRecDepth 100000 in
theorem carousellaw22_EventFull.calls (a0 : Int) (r : Bool) (w : World) (h : carousellaw22_EventFull.f a0 = some r) (hT : r = true) :
    Calls Try.prog 6 #[.int .u8 a0] w fun e w' => e = .returned (.bool r) ∧ Below w.heap.size w w' := by
  have HB := Aside0.mk (Below.refl w.heap.size w)
  have H : (if 0 ≤ (wrap64 (9990 + (wrap64 (Int.tmod a0 20)))) then (if (wrap64 (9990 + (wrap64 (Int.tmod a0 20))) : Int).toNat ≤ 11728124029610 then ((event_Close.f (List.replicate (wrap64 (9990 + (wrap64 (Int.tmod a0 20))) : Int).toNat z28)).bind fun bt182 => (if 0 ≤ (wrap64 (6 * (wrap64 (9990 + (wrap64 (Int.tmod a0 20)))))) then (if (wrap64 (6 * (wrap64 (9990 + (wrap64 (Int.tmod a0 20))))) : Int).toNat ≤ 281474976710656 then ((event_Open.f (strOfNums (List.replicate (wrap64 (6 * (wrap64 (9990 + (wrap64 (Int.tmod a0 20))))) : Int).toNat 0))).bind fun bt187 => (if (wrap64 (9990 + (wrap64 (Int.tmod a0 20)))) > 10000 then ((carousellaw22_Awake.f).bind fun t191 => (if t191 = true then (if bt182.2 = 9 then (if bt187.2 = 9 then (some ((bt187.1.length : Int) == 0)) else (some false)) else (some false)) else (some false))) else ((carousellaw22_Awake.f).bind fun t192 => (if t192 = true then (if bt182.2 = 0 then (if bt187.2 = 0 then (some ((bt187.1.length : Int) == (wrap64 (9990 + (wrap64 (Int.tmod a0 20)))))) else (some false)) else (some false)) else (some false))))) else (none)) else (none))) else (none)) else (none)) = some r := h
  clear h
  obtain ⟨ji2, hji2⟩ : ∃ j_ : Int, (wrap64 (9990 + (wrap64 (Int.tmod a0 20)))) = j_ := ⟨_, rfl⟩
  replace H : (if 0 ≤ (ji2) then (if (ji2 : Int).toNat ≤ 11728124029610 then ((event_Close.f (List.replicate (ji2 : Int).toNat z28)).bind fun bt182 => (if 0 ≤ (wrap64 (6 * (ji2))) then (if (wrap64 (6 * (ji2)) : Int).toNat ≤ 281474976710656 then ((event_Open.f (strOfNums (List.replicate (wrap64 (6 * (ji2)) : Int).toNat 0))).bind fun bt187 => (if (ji2) > 10000 then ((carousellaw22_Awake.f).bind fun t191 => (if t191 = true then (if bt182.2 = 9 then (if bt187.2 = 9 then (some ((bt187.1.length : Int) == 0)) else (some false)) else (some false)) else (some false))) else ((carousellaw22_Awake.f).bind fun t192 => (if t192 = true then (if bt182.2 = 0 then (if bt187.2 = 0 then (some ((bt187.1.length : Int) == (ji2))) else (some false)) else (some false)) else (some false))))) else (none)) else (none))) else (none)) else (none)) = some r := by first | (rw [hji2] at H; exact H) | (simp only [hji2] at H ⊢; exact H)
  have hji2w : (IntKind.i64.wrap (9990 + (wrap64 (Int.tmod a0 20)))) = ji2 := (i64_w _).trans hji2
  by_cases c3 : 0 ≤ (ji2)
  · rw [if_pos c3] at H
    have c3b0 := eq_true c3
    have c3b1 : decide (0 ≤ (ji2)) = true := decide_eq_true c3
    clear c3
    by_cases c4 : (ji2 : Int).toNat ≤ 11728124029610
    · rw [if_pos c4] at H
      have c4b0 := eq_true c4
      have c4b1 : decide ((ji2 : Int).toNat ≤ 11728124029610) = true := decide_eq_true c4
      clear c4
      obtain ⟨y179, hy179⟩ : ∃ y_ : List (S28), y_ = (List.replicate (ji2 : Int).toNat z28) := ⟨_, rfl⟩
      replace H : ((event_Close.f y179).bind fun bt182 => (if 0 ≤ (wrap64 (6 * (ji2))) then (if (wrap64 (6 * (ji2)) : Int).toNat ≤ 281474976710656 then ((event_Open.f (strOfNums (List.replicate (wrap64 (6 * (ji2)) : Int).toNat 0))).bind fun bt187 => (if (ji2) > 10000 then ((carousellaw22_Awake.f).bind fun t191 => (if t191 = true then (if bt182.2 = 9 then (if bt187.2 = 9 then (some ((bt187.1.length : Int) == 0)) else (some false)) else (some false)) else (some false))) else ((carousellaw22_Awake.f).bind fun t192 => (if t192 = true then (if bt182.2 = 0 then (if bt187.2 = 0 then (some ((bt187.1.length : Int) == (ji2))) else (some false)) else (some false)) else (some false))))) else (none)) else (none))) = some r := by first | (rw [hy179]; with_reducible exact H) | (have H2_ := (Option.bind_some _ _).symm.trans H; rw [hy179]; with_reducible exact H2_) | (have H2_ := (Option.bind_some _ _).symm.trans H; with_reducible exact H2_) | with_reducible exact H | (rw [hy179]; exact H) | exact H
      have Ny179 := Aside0.mk hy179
      clear hy179
      replace H := Option.bind_eq_some_iff.mp H
      obtain ⟨⟨t182, t183⟩, A50, H⟩ := H
      replace H : (if 0 ≤ (wrap64 (6 * (ji2))) then (if (wrap64 (6 * (ji2)) : Int).toNat ≤ 281474976710656 then ((event_Open.f (strOfNums (List.replicate (wrap64 (6 * (ji2)) : Int).toNat 0))).bind fun bt187 => (if (ji2) > 10000 then ((carousellaw22_Awake.f).bind fun t191 => (if t191 = true then (if t183 = 9 then (if bt187.2 = 9 then (some ((bt187.1.length : Int) == 0)) else (some false)) else (some false)) else (some false))) else ((carousellaw22_Awake.f).bind fun t192 => (if t192 = true then (if t183 = 0 then (if bt187.2 = 0 then (some ((bt187.1.length : Int) == (ji2))) else (some false)) else (some false)) else (some false))))) else (none)) else (none)) = some r := H
      have A5 := Aside0.mk A50
      clear A50
      obtain ⟨ji6, hji6⟩ : ∃ j_ : Int, (wrap64 (6 * (ji2))) = j_ := ⟨_, rfl⟩
      replace H : (if 0 ≤ (ji6) then (if (ji6 : Int).toNat ≤ 281474976710656 then ((event_Open.f (strOfNums (List.replicate (ji6 : Int).toNat 0))).bind fun bt187 => (if (ji2) > 10000 then ((carousellaw22_Awake.f).bind fun t191 => (if t191 = true then (if t183 = 9 then (if bt187.2 = 9 then (some ((bt187.1.length : Int) == 0)) else (some false)) else (some false)) else (some false))) else ((carousellaw22_Awake.f).bind fun t192 => (if t192 = true then (if t183 = 0 then (if bt187.2 = 0 then (some ((bt187.1.length : Int) == (ji2))) else (some false)) else (some false)) else (some false))))) else (none)) else (none)) = some r := by first | (rw [hji6] at H; exact H) | (simp only [hji6] at H ⊢; exact H)
      (try rw [hji6] at A5)
      have hji6w : (IntKind.i64.wrap (6 * (ji2))) = ji6 := (i64_w _).trans hji6
      by_cases c7 : 0 ≤ (ji6)
      · rw [if_pos c7] at H
        have c7b0 := eq_true c7
        have c7b1 : decide (0 ≤ (ji6)) = true := decide_eq_true c7
        clear c7
        by_cases c8 : (ji6 : Int).toNat ≤ 281474976710656
        · rw [if_pos c8] at H
          have c8b0 := eq_true c8
          have c8b1 : decide ((ji6 : Int).toNat ≤ 281474976710656) = true := decide_eq_true c8
          clear c8
          obtain ⟨y184, hy184⟩ : ∃ y_ : List Int, y_ = (List.replicate (ji6 : Int).toNat 0) := ⟨_, rfl⟩
          replace H : ((event_Open.f (strOfNums y184)).bind fun bt187 => (if (ji2) > 10000 then ((carousellaw22_Awake.f).bind fun t191 => (if t191 = true then (if t183 = 9 then (if bt187.2 = 9 then (some ((bt187.1.length : Int) == 0)) else (some false)) else (some false)) else (some false))) else ((carousellaw22_Awake.f).bind fun t192 => (if t192 = true then (if t183 = 0 then (if bt187.2 = 0 then (some ((bt187.1.length : Int) == (ji2))) else (some false)) else (some false)) else (some false))))) = some r := by first | (rw [hy184]; with_reducible exact H) | (have H2_ := (Option.bind_some _ _).symm.trans H; rw [hy184]; with_reducible exact H2_) | (have H2_ := (Option.bind_some _ _).symm.trans H; with_reducible exact H2_) | with_reducible exact H | (rw [hy184]; exact H) | exact H
          have Ny184 := Aside0.mk hy184
          clear hy184
          replace H := Option.bind_eq_some_iff.mp H
          obtain ⟨⟨t187, t188⟩, A90, H⟩ := H
          replace H : (if (ji2) > 10000 then ((carousellaw22_Awake.f).bind fun t191 => (if t191 = true then (if t183 = 9 then (if t188 = 9 then (some ((t187.length : Int) == 0)) else (some false)) else (some false)) else (some false))) else ((carousellaw22_Awake.f).bind fun t192 => (if t192 = true then (if t183 = 0 then (if t188 = 0 then (some ((t187.length : Int) == (ji2))) else (some false)) else (some false)) else (some false)))) = some r := H
          have A9 := Aside0.mk A90
          clear A90
          by_cases c10 : (ji2) > 10000
          · rw [if_pos c10] at H
            have c10b0 : decide (10000 < (ji2)) = true := decide_eq_true c10
            clear c10
            replace H := Option.bind_eq_some_iff.mp H
            obtain ⟨t191, A110, H⟩ := H
            replace H : (if t191 = true then (if t183 = 9 then (if t188 = 9 then (some ((t187.length : Int) == 0)) else (some false)) else (some false)) else (some false)) = some r := H
            have A11 := Aside0.mk A110
            clear A110
            by_cases c12 : t191 = true
            · subst c12
              have H1 : (if t183 = 9 then (if t188 = 9 then (some ((t187.length : Int) == 0)) else (some false)) else (some false)) = some r := by rw [if_pos rfl] at H; exact H
              clear H
              have H := H1
              clear H1
              by_cases c13 : t183 = 9
              · rw [if_pos c13] at H
                have c13b0 : (t183 == 9) = true := beq_iff_eq.mpr c13
                have c13b1 : (t183 != 9) = false := bne_eq_false_iff_eq.mpr c13
                clear c13
                by_cases c14 : t188 = 9
                · rw [if_pos c14] at H
                  have c14b0 : (t188 == 9) = true := beq_iff_eq.mpr c14
                  have c14b1 : (t188 != 9) = false := bne_eq_false_iff_eq.mpr c14
                  clear c14
                  obtain rfl := Option.some.inj H
                  go_enter Try.func6, Try.ntmps6
                  go_wp2_with (first | ((with_reducible refine gate_dst (N := 14) rfl ?_); (try (refine gate_guard (by rfl) ?_; dsimp only)); refine Kd.R_make k28 _ 28 rfl (N := 14) rfl 22 _ _ rfl ji2 rfl rfl Try.underlying22 (.agg #[(.int .u8 0), (.int .u8 0), (.int .u8 0), (.int .u8 0), (.string ⟨#[]⟩)]) 24 info28 rfl (by decide) (by omega) z28 (ok := fun _ => True) (okp := fun _ => True) (k28_mkM _ _ _ z28 ) (fun _ hk => hk) trivial (of_decide_eq_true (by first | (with_reducible assumption) | assumption)) (Nat.le_trans (Nat.mul_le_mul_right _ (of_decide_eq_true (by first | (with_reducible assumption) | assumption) : ji2.toNat ≤ 11728124029610)) (by omega)) (Below.refl _ _) (Nat.le_refl _) ?_; intro v180 w15 ho16 hb hg_ hnew_; clear hg_ hnew_; (first | rw [← Ny179.out] at ho16 | (simp only [Int.reduceToNat] at ho16; rw [← Ny179.out] at ho16)); have n0_ := Aside0.mk (Kd.R_lower ho16 (below_size (by repeat (first | (with_reducible first | exact HB.out | apply below_alloc | apply pw_below_drewN | apply below_drew1) | exact HB.out)))); have n1_ := Aside0.mk (below_step (by repeat (first | (with_reducible first | exact HB.out | apply below_alloc | apply pw_below_drewN | apply below_drew1) | exact HB.out)) hb); clear HB; have HO181 := n0_; have HB := n1_; clear n0_ n1_; clear hb ho16; obtain ⟨Ao17, co17, eo17⟩ := Kd.R_slice HO181.out; subst eo17) | ((with_reducible refine gate_callee (f := 10) rfl ?_); refine goesL_ (some 17) rfl rfl Try.func10 (by kernel_rfl) rfl #[.slice Ao17 y179.length co17] rfl (by (try simp only [List.map_toArray, List.map_cons, List.map_nil]); first | done | rfl | (simp only [List.length_drop, List.length_take]; rfl)) ?_; (with_reducible refine (event_Close.calls _ _ y179 t182 t183 _ ?side1 ?side2 A5.out).mono ?_); (case side1 => repeat (first | exact (Kd.R_reads' HO181.out).2.2 | (with_reducible refine Kd.C_alloc ?_ _) | (with_reducible refine Kd.C_drewN ?_ _) | (with_reducible refine Kd.C_drew ?_))); (case side2 => exact (Kd.R_reads' HO181.out).2.1); rintro e w18 ⟨rfl, hb⟩; refine ⟨_, rfl, ?_⟩; have n0_ := Aside0.mk (Kd.R_below (by (with_reducible repeat (first | apply Kd.R_alloc | apply Kd.R_drewN | apply Kd.R_drew)); exact HO181.out) hb); have n1_ := Aside0.mk (below_step (by repeat (first | (with_reducible first | exact HB.out | apply below_alloc | apply pw_below_drewN | apply below_drew1) | exact HB.out)) hb); clear HO181; clear HB; have HO181 := n0_; have HB := n1_; clear n0_ n1_; (try clear hb); (try clear hb2); (try clear hk); (try clear hi)) | ((with_reducible refine gate_dst (N := 23) rfl ?_); (try (refine gate_guard (by rfl) ?_; dsimp only)); refine Kd.R_make (Kd.int .u8) _ 5 rfl (N := 23) rfl 46 _ _ rfl ji6 rfl rfl Try.underlying46 (.int .u8 0) 1 info5 rfl (by decide) (by omega) 0 (ok := fun _ => True) (okp := fun _ => True) rfl (fun _ hk => hk) trivial (of_decide_eq_true (by first | (with_reducible assumption) | assumption)) (Nat.le_trans (Nat.mul_le_mul_right _ (of_decide_eq_true (by first | (with_reducible assumption) | assumption) : ji6.toNat ≤ 281474976710656)) (by omega)) (Below.refl _ _) (Nat.le_refl _) ?_; intro v185 w19 ho20 hb hg_ hnew_; clear hg_ hnew_; (first | rw [← Ny184.out] at ho20 | (simp only [Int.reduceToNat] at ho20; rw [← Ny184.out] at ho20)); have n0_ := Aside0.mk (Kd.R_below (by (with_reducible repeat (first | apply Kd.R_alloc | apply Kd.R_drewN | apply Kd.R_drew)); exact HO181.out) hb); have n1_ := Aside0.mk (Kd.R_lower ho20 (below_size (by repeat (first | (with_reducible first | exact HB.out | apply below_alloc | apply pw_below_drewN | apply below_drew1) | exact HB.out)))); have n2_ := Aside0.mk (below_step (by repeat (first | (with_reducible first | exact HB.out | apply below_alloc | apply pw_below_drewN | apply below_drew1) | exact HB.out)) hb); clear HO181; clear HB; have HO181 := n0_; have HO186 := n1_; have HB := n2_; clear n0_ n1_ n2_; clear hb ho20; have hcv21 := own_string (P := Try.prog) Try.underlying46 Try.underlying5 Try.underlying9 (Kd.own_of_R HO186.out)) | ((with_reducible refine gate_callee (f := 14) rfl ?_); refine goesL_ (some 25) rfl rfl Try.func14 (by kernel_rfl) rfl #[.string (strOfNums y184)] rfl (by (try simp only [List.map_toArray, List.map_cons, List.map_nil]); first | done | rfl | (simp only [List.length_drop, List.length_take]; rfl)) ?_; (with_reducible refine (event_Open.calls (strOfNums y184) t187 t188 _ A9.out).mono ?_); rintro e w22 ⟨v189, rfl, ho0, hb⟩; refine ⟨_, rfl, ?_⟩; have n0_ := Aside0.mk (Kd.R_elder' (by (with_reducible repeat (first | apply Kd.R_alloc | apply Kd.R_drewN | apply Kd.R_drew)); exact HO181.out) (Kd.R_base ho0) hb); have n1_ := Aside0.mk (Kd.R_below (by (with_reducible repeat (first | apply Kd.R_alloc | apply Kd.R_drewN | apply Kd.R_drew)); exact HO186.out) hb); have n2_ := Aside0.mk (Kd.R_lower (Kd.R_new' ho0 (Kd.R_lt (by (with_reducible repeat (first | apply Kd.R_alloc | apply Kd.R_drewN | apply Kd.R_drew)); exact HO181.out))) (below_size (by repeat (first | (with_reducible first | exact HB.out | apply below_alloc | apply pw_below_drewN | apply below_drew1) | exact HB.out)))); have n3_ := Aside0.mk (below_step (by repeat (first | (with_reducible first | exact HB.out | apply below_alloc | apply pw_below_drewN | apply below_drew1) | exact HB.out)) hb); clear HO181; clear HO186; clear HB; have HO181 := n0_; have HO186 := n1_; have HO190 := n2_; have HB := n3_; clear n0_ n1_ n2_ n3_; (try clear hb); (try clear hb2); (try clear hk); (try clear hi); (try clear ho0)) | ((with_reducible refine gate_callee (f := 8) rfl ?_); refine goesL_ (some 30) rfl rfl Try.func8 (by kernel_rfl) rfl #[] rfl (by (try simp only [List.map_toArray, List.map_cons, List.map_nil]); first | done | rfl | (simp only [List.length_drop, List.length_take]; rfl)) ?_; (with_reducible refine (carousellaw22_Awake.calls  true _ A11.out).mono ?_); rintro e w23 ⟨rfl, hb⟩; refine ⟨_, rfl, ?_⟩; have n0_ := Aside0.mk (Kd.R_below (by (with_reducible repeat (first | apply Kd.R_alloc | apply Kd.R_drewN | apply Kd.R_drew)); exact HO181.out) hb); have n1_ := Aside0.mk (Kd.R_below (by (with_reducible repeat (first | apply Kd.R_alloc | apply Kd.R_drewN | apply Kd.R_drew)); exact HO186.out) hb); have n2_ := Aside0.mk (Kd.R_below (by (with_reducible repeat (first | apply Kd.R_alloc | apply Kd.R_drewN | apply Kd.R_drew)); exact HO190.out) hb); have n3_ := Aside0.mk (below_step (by repeat (first | (with_reducible first | exact HB.out | apply below_alloc | apply pw_below_drewN | apply below_drew1) | exact HB.out)) hb); clear HO181; clear HO186; clear HO190; clear HB; have HO181 := n0_; have HO186 := n1_; have HO190 := n2_; have HB := n3_; clear n0_ n1_ n2_ n3_; (try clear hb); (try clear hb2); (try clear hk); (try clear hi); obtain ⟨Ao24, co24, eo24⟩ := Kd.R_slice HO190.out; subst eo24))
                  go_ret
                  exact ⟨by first | rfl | (simp [errW_none, errW_some] <;> rfl) | (simp only [← hji2, ← hji6]; first | rfl | (simp [errW_none, errW_some] <;> rfl)) | (simp [*, errW_none, errW_some] <;> rfl), by repeat (first | (with_reducible first | exact HB.out | apply below_alloc | apply pw_below_drewN | apply below_drew1) | exact HB.out)⟩
                · rw [if_neg c14] at H
                  have c14b0 : (t188 == 9) = false := beq_eq_false_iff_ne.mpr c14
                  have c14b1 : (t188 != 9) = true := bne_iff_ne.mpr c14
                  cases (Option.some.inj H).trans hT
              · rw [if_neg c13] at H
                have c13b0 : (t183 == 9) = false := beq_eq_false_iff_ne.mpr c13
                have c13b1 : (t183 != 9) = true := bne_iff_ne.mpr c13
                cases (Option.some.inj H).trans hT
            · replace c12 := Bool.eq_false_iff.mpr c12
              subst c12
              have H1 : (some false) = some r := by rw [if_neg (show ¬ (false = true) by decide)] at H; exact H
              clear H
              have H := H1
              clear H1
              cases (Option.some.inj H).trans hT
          · rw [if_neg c10] at H
            have c10b0 : decide (10000 < (ji2)) = false := decide_eq_false c10
            clear c10
            replace H := Option.bind_eq_some_iff.mp H
            obtain ⟨t192, A250, H⟩ := H
            replace H : (if t192 = true then (if t183 = 0 then (if t188 = 0 then (some ((t187.length : Int) == (ji2))) else (some false)) else (some false)) else (some false)) = some r := H
            have A25 := Aside0.mk A250
            clear A250
            by_cases c26 : t192 = true
            · subst c26
              have H1 : (if t183 = 0 then (if t188 = 0 then (some ((t187.length : Int) == (ji2))) else (some false)) else (some false)) = some r := by rw [if_pos rfl] at H; exact H
              clear H
              have H := H1
              clear H1
              by_cases c27 : t183 = 0
              · rw [if_pos c27] at H
                have c27b0 : (t183 == 0) = true := beq_iff_eq.mpr c27
                have c27b1 : (t183 != 0) = false := bne_eq_false_iff_eq.mpr c27
                clear c27
                by_cases c28 : t188 = 0
                · rw [if_pos c28] at H
                  have c28b0 : (t188 == 0) = true := beq_iff_eq.mpr c28
                  have c28b1 : (t188 != 0) = false := bne_eq_false_iff_eq.mpr c28
                  clear c28
                  obtain rfl := Option.some.inj H
                  go_enter Try.func6, Try.ntmps6
                  go_wp2_with (first | ((with_reducible refine gate_dst (N := 14) rfl ?_); (try (refine gate_guard (by rfl) ?_; dsimp only)); refine Kd.R_make k28 _ 28 rfl (N := 14) rfl 22 _ _ rfl ji2 rfl rfl Try.underlying22 (.agg #[(.int .u8 0), (.int .u8 0), (.int .u8 0), (.int .u8 0), (.string ⟨#[]⟩)]) 24 info28 rfl (by decide) (by omega) z28 (ok := fun _ => True) (okp := fun _ => True) (k28_mkM _ _ _ z28 ) (fun _ hk => hk) trivial (of_decide_eq_true (by first | (with_reducible assumption) | assumption)) (Nat.le_trans (Nat.mul_le_mul_right _ (of_decide_eq_true (by first | (with_reducible assumption) | assumption) : ji2.toNat ≤ 11728124029610)) (by omega)) (Below.refl _ _) (Nat.le_refl _) ?_; intro v180 w29 ho30 hb hg_ hnew_; clear hg_ hnew_; (first | rw [← Ny179.out] at ho30 | (simp only [Int.reduceToNat] at ho30; rw [← Ny179.out] at ho30)); have n0_ := Aside0.mk (Kd.R_lower ho30 (below_size (by repeat (first | (with_reducible first | exact HB.out | apply below_alloc | apply pw_below_drewN | apply below_drew1) | exact HB.out)))); have n1_ := Aside0.mk (below_step (by repeat (first | (with_reducible first | exact HB.out | apply below_alloc | apply pw_below_drewN | apply below_drew1) | exact HB.out)) hb); clear HB; have HO181 := n0_; have HB := n1_; clear n0_ n1_; clear hb ho30; obtain ⟨Ao31, co31, eo31⟩ := Kd.R_slice HO181.out; subst eo31) | ((with_reducible refine gate_callee (f := 10) rfl ?_); refine goesL_ (some 17) rfl rfl Try.func10 (by kernel_rfl) rfl #[.slice Ao31 y179.length co31] rfl (by (try simp only [List.map_toArray, List.map_cons, List.map_nil]); first | done | rfl | (simp only [List.length_drop, List.length_take]; rfl)) ?_; (with_reducible refine (event_Close.calls _ _ y179 t182 t183 _ ?side1 ?side2 A5.out).mono ?_); (case side1 => repeat (first | exact (Kd.R_reads' HO181.out).2.2 | (with_reducible refine Kd.C_alloc ?_ _) | (with_reducible refine Kd.C_drewN ?_ _) | (with_reducible refine Kd.C_drew ?_))); (case side2 => exact (Kd.R_reads' HO181.out).2.1); rintro e w32 ⟨rfl, hb⟩; refine ⟨_, rfl, ?_⟩; have n0_ := Aside0.mk (Kd.R_below (by (with_reducible repeat (first | apply Kd.R_alloc | apply Kd.R_drewN | apply Kd.R_drew)); exact HO181.out) hb); have n1_ := Aside0.mk (below_step (by repeat (first | (with_reducible first | exact HB.out | apply below_alloc | apply pw_below_drewN | apply below_drew1) | exact HB.out)) hb); clear HO181; clear HB; have HO181 := n0_; have HB := n1_; clear n0_ n1_; (try clear hb); (try clear hb2); (try clear hk); (try clear hi)) | ((with_reducible refine gate_dst (N := 23) rfl ?_); (try (refine gate_guard (by rfl) ?_; dsimp only)); refine Kd.R_make (Kd.int .u8) _ 5 rfl (N := 23) rfl 46 _ _ rfl ji6 rfl rfl Try.underlying46 (.int .u8 0) 1 info5 rfl (by decide) (by omega) 0 (ok := fun _ => True) (okp := fun _ => True) rfl (fun _ hk => hk) trivial (of_decide_eq_true (by first | (with_reducible assumption) | assumption)) (Nat.le_trans (Nat.mul_le_mul_right _ (of_decide_eq_true (by first | (with_reducible assumption) | assumption) : ji6.toNat ≤ 281474976710656)) (by omega)) (Below.refl _ _) (Nat.le_refl _) ?_; intro v185 w33 ho34 hb hg_ hnew_; clear hg_ hnew_; (first | rw [← Ny184.out] at ho34 | (simp only [Int.reduceToNat] at ho34; rw [← Ny184.out] at ho34)); have n0_ := Aside0.mk (Kd.R_below (by (with_reducible repeat (first | apply Kd.R_alloc | apply Kd.R_drewN | apply Kd.R_drew)); exact HO181.out) hb); have n1_ := Aside0.mk (Kd.R_lower ho34 (below_size (by repeat (first | (with_reducible first | exact HB.out | apply below_alloc | apply pw_below_drewN | apply below_drew1) | exact HB.out)))); have n2_ := Aside0.mk (below_step (by repeat (first | (with_reducible first | exact HB.out | apply below_alloc | apply pw_below_drewN | apply below_drew1) | exact HB.out)) hb); clear HO181; clear HB; have HO181 := n0_; have HO186 := n1_; have HB := n2_; clear n0_ n1_ n2_; clear hb ho34; have hcv35 := own_string (P := Try.prog) Try.underlying46 Try.underlying5 Try.underlying9 (Kd.own_of_R HO186.out)) | ((with_reducible refine gate_callee (f := 14) rfl ?_); refine goesL_ (some 25) rfl rfl Try.func14 (by kernel_rfl) rfl #[.string (strOfNums y184)] rfl (by (try simp only [List.map_toArray, List.map_cons, List.map_nil]); first | done | rfl | (simp only [List.length_drop, List.length_take]; rfl)) ?_; (with_reducible refine (event_Open.calls (strOfNums y184) t187 t188 _ A9.out).mono ?_); rintro e w36 ⟨v189, rfl, ho0, hb⟩; refine ⟨_, rfl, ?_⟩; have n0_ := Aside0.mk (Kd.R_elder' (by (with_reducible repeat (first | apply Kd.R_alloc | apply Kd.R_drewN | apply Kd.R_drew)); exact HO181.out) (Kd.R_base ho0) hb); have n1_ := Aside0.mk (Kd.R_below (by (with_reducible repeat (first | apply Kd.R_alloc | apply Kd.R_drewN | apply Kd.R_drew)); exact HO186.out) hb); have n2_ := Aside0.mk (Kd.R_lower (Kd.R_new' ho0 (Kd.R_lt (by (with_reducible repeat (first | apply Kd.R_alloc | apply Kd.R_drewN | apply Kd.R_drew)); exact HO181.out))) (below_size (by repeat (first | (with_reducible first | exact HB.out | apply below_alloc | apply pw_below_drewN | apply below_drew1) | exact HB.out)))); have n3_ := Aside0.mk (below_step (by repeat (first | (with_reducible first | exact HB.out | apply below_alloc | apply pw_below_drewN | apply below_drew1) | exact HB.out)) hb); clear HO181; clear HO186; clear HB; have HO181 := n0_; have HO186 := n1_; have HO190 := n2_; have HB := n3_; clear n0_ n1_ n2_ n3_; (try clear hb); (try clear hb2); (try clear hk); (try clear hi); (try clear ho0)) | ((with_reducible refine gate_callee (f := 8) rfl ?_); refine goesL_ (some 44) rfl rfl Try.func8 (by kernel_rfl) rfl #[] rfl (by (try simp only [List.map_toArray, List.map_cons, List.map_nil]); first | done | rfl | (simp only [List.length_drop, List.length_take]; rfl)) ?_; (with_reducible refine (carousellaw22_Awake.calls  true _ A25.out).mono ?_); rintro e w37 ⟨rfl, hb⟩; refine ⟨_, rfl, ?_⟩; have n0_ := Aside0.mk (Kd.R_below (by (with_reducible repeat (first | apply Kd.R_alloc | apply Kd.R_drewN | apply Kd.R_drew)); exact HO181.out) hb); have n1_ := Aside0.mk (Kd.R_below (by (with_reducible repeat (first | apply Kd.R_alloc | apply Kd.R_drewN | apply Kd.R_drew)); exact HO186.out) hb); have n2_ := Aside0.mk (Kd.R_below (by (with_reducible repeat (first | apply Kd.R_alloc | apply Kd.R_drewN | apply Kd.R_drew)); exact HO190.out) hb); have n3_ := Aside0.mk (below_step (by repeat (first | (with_reducible first | exact HB.out | apply below_alloc | apply pw_below_drewN | apply below_drew1) | exact HB.out)) hb); clear HO181; clear HO186; clear HO190; clear HB; have HO181 := n0_; have HO186 := n1_; have HO190 := n2_; have HB := n3_; clear n0_ n1_ n2_ n3_; (try clear hb); (try clear hb2); (try clear hk); (try clear hi); obtain ⟨Ao38, co38, eo38⟩ := Kd.R_slice HO190.out; subst eo38))
                  go_ret
                  exact ⟨by first | rfl | (simp [errW_none, errW_some] <;> rfl) | (simp only [← hji2, ← hji6]; first | rfl | (simp [errW_none, errW_some] <;> rfl)) | (simp [*, errW_none, errW_some] <;> rfl), by repeat (first | (with_reducible first | exact HB.out | apply below_alloc | apply pw_below_drewN | apply below_drew1) | exact HB.out)⟩
                · rw [if_neg c28] at H
                  have c28b0 : (t188 == 0) = false := beq_eq_false_iff_ne.mpr c28
                  have c28b1 : (t188 != 0) = true := bne_iff_ne.mpr c28
                  cases (Option.some.inj H).trans hT
              · rw [if_neg c27] at H
                have c27b0 : (t183 == 0) = false := beq_eq_false_iff_ne.mpr c27
                have c27b1 : (t183 != 0) = true := bne_iff_ne.mpr c27
                cases (Option.some.inj H).trans hT
            · replace c26 := Bool.eq_false_iff.mpr c26
              subst c26
              have H1 : (some false) = some r := by rw [if_neg (show ¬ (false = true) by decide)] at H; exact H
              clear H
              have H := H1
              clear H1
              cases (Option.some.inj H).trans hT
        · rw [if_neg c8] at H
          exact absurd H (by simp)
      · rw [if_neg c7] at H
        exact absurd H (by simp)
    · rw [if_neg c4] at H
      exact absurd H (by simp)
  · rw [if_neg c3] at H
    exact absurd H (by simp)

/-- THE ONE PURE STATEMENT of carousellaw22_EventFull: yours. -/
def carousellaw22_EventFull.Pure : Prop := ∀ (a0 : Int), (Lit.int .u8 a0).wf = true → carousellaw22_EventFull.f a0 = some true
theorem carousellaw22_EventFull.walk (P : carousellaw22_EventFull.Pure) (a0 : Int) (w : World) (w0_0 : (Lit.int .u8 a0).wf = true) :
    Calls Try.prog 6 #[.int .u8 a0] w fun e w' => e = .returned (.bool true) ∧ Below w.heap.size w w' := by
  have h := P a0 w0_0
  refine (carousellaw22_EventFull.calls a0 true w h rfl).mono ?_
  rintro e w' ⟨rfl, hd⟩
  exact ⟨rfl, hd⟩

end Go.Proofs.Ytkjjdphlfbecdaa.PAll
