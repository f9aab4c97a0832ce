-- Written by a program of this work, after the translation.
import Derived.Test.YtmdaaphjndjakafPAllx0
import Derived.Test.YtmdaaphjndjakafPAllx3
import Derived.Test.YtmdaaphjndjakafPAllx4
import Derived.Test.YtmdaaphjndjakafPAllx5
import Derived.Test.YtmdaaphjndjakafPAllx13
import Derived.Test.YtmdaaphjndjakafPAllx14
namespace Go.Proofs.Ytmdaaphjndjakaf.PAll
open Go.RowKit Go.Proofs.YtmdaaphjndjakafW.PrintWords Go.Proofs.YtmdaaphjndjakafW.PrintLast Go.Proofs.YtmdaaphjndjakafW.PrintMore
attribute [local go_sem] max2_int min2_int max_two min_two max_three min_three max_four min_four   -- for this text's walks alone
set_option linter.unusedVariables false
set_option linter.unusedSimpArgs false

/-! ### carousellaw02_MacBack: function 4 -/
def carousellaw02_MacBack.j0 : Nat → ByteArray → Bool → Option (Bool)
  | 0, _, _ => none
  | k + 1, x1, x50 => if x50 = true then (some false) else ((mac_Parse.f k x1).bind fun bt215 => ((carousellaw02_Awake.f k).bind fun t217 => (if t217 = true then (if bt215.2 = 0 then ((mac_Addr_String.f k bt215.1).bind fun t218 => (if t218.toList = x1.toList then ((mac_Addr_May.f bt215.1).bind fun t219 => (some t219)) else (some false))) else (some true)) else (some false))))
def carousellaw02_MacBack.f (k : Nat) (a0 : Int) (a1 : ByteArray) : Option (Bool) := if (a1.size : Int) > 200 then ((carousellaw02_Awake.f k).bind fun t207 => (some t207)) else ((mac_Addr_Bytes.f (Int.tmod a0 281474976710656)).bind fun t208 => ((mac_Of.f k t208).bind fun bt209 => ((mac_Addr_String.f k (Int.tmod a0 281474976710656)).bind fun t211 => ((mac_Parse.f k t211).bind fun bt212 => (if bt209.2 = 0 then (if bt212.2 = 0 then (if bt209.1 = (Int.tmod a0 281474976710656) then (if bt212.1 = (Int.tmod a0 281474976710656) then ((mac_Addr_String.f k (Int.tmod a0 281474976710656)).bind fun t214 => (carousellaw02_MacBack.j0 k a1 ((t214.size : Int) != 17))) else (carousellaw02_MacBack.j0 k a1 true)) else (carousellaw02_MacBack.j0 k a1 true)) else (carousellaw02_MacBack.j0 k a1 true)) else (carousellaw02_MacBack.j0 k a1 true))))))
theorem carousellaw02_MacBack.mono_l : ∀ k, (∀ y0 y1, LeO (carousellaw02_MacBack.j0 k y0 y1) (carousellaw02_MacBack.j0 (k + 1) y0 y1))
  | 0 => fun _ _ r h => by simp [carousellaw02_MacBack.j0] at h
  | k + 1 => by
    have ih0 := carousellaw02_MacBack.mono_l k
    · intro y0 y1
      unfold carousellaw02_MacBack.j0
      repeat' first
      | (with_reducible exact ih0 _ _)
      | (with_reducible exact carousellaw02_Awake.mono _)
      | (with_reducible exact mac_Addr_String.mono _ _)
      | (with_reducible exact mac_Of.mono _ _)
      | (with_reducible exact mac_Parse.mono _ _)
      | (with_reducible exact LeO.refl _)
      | (with_reducible exact LeO.none _)
      | (with_reducible refine LeO.ite ?_ ?_)
      | (with_reducible refine LeO.bind ?_ (fun _ => ?_))
      | exact ih0 _ _
      | exact carousellaw02_Awake.mono _
      | exact mac_Addr_String.mono _ _
      | exact mac_Of.mono _ _
      | exact mac_Parse.mono _ _
      | exact LeO.none _
      | refine LeO.ite ?_ ?_
      | refine LeO.bind ?_ (fun _ => ?_)
theorem carousellaw02_MacBack.mono : ∀ a0 a1 k, LeO (carousellaw02_MacBack.f k a0 a1) (carousellaw02_MacBack.f (k + 1) a0 a1) := by
  intro a0 a1 k
  have ih0 := carousellaw02_MacBack.mono_l k
  unfold carousellaw02_MacBack.f
  repeat' first
      | (with_reducible exact ih0 _ _)
      | (with_reducible exact carousellaw02_Awake.mono _)
      | (with_reducible exact mac_Addr_String.mono _ _)
      | (with_reducible exact mac_Of.mono _ _)
      | (with_reducible exact mac_Parse.mono _ _)
      | (with_reducible exact LeO.refl _)
      | (with_reducible exact LeO.none _)
      | (with_reducible refine LeO.ite ?_ ?_)
      | (with_reducible refine LeO.bind ?_ (fun _ => ?_))
      | exact ih0 _ _
      | exact carousellaw02_Awake.mono _
      | exact mac_Addr_String.mono _ _
      | exact mac_Of.mono _ _
      | exact mac_Parse.mono _ _
      | exact LeO.none _
      | refine LeO.ite ?_ ?_
      | refine LeO.bind ?_ (fun _ => ?_)
set_option maxHeartbeats 8000000 in
set_option maxRecDepth 100000 in
theorem carousellaw02_MacBack.calls (k : Nat) (a0 : Int) (a1 : ByteArray) (r : Bool) (w : World) (h : carousellaw02_MacBack.f k a0 a1 = some r) :
    Calls Try.prog 4 #[.int .u64 a0, .string a1] w fun e w' => e = .returned (.bool r) ∧ Below w.heap.size w w' := by
  have HB := Aside0.mk (Below.refl w.heap.size w)
  have H : (if (a1.size : Int) > 200 then ((carousellaw02_Awake.f k).bind fun t207 => (some t207)) else ((mac_Addr_Bytes.f (Int.tmod a0 281474976710656)).bind fun t208 => ((mac_Of.f k t208).bind fun bt209 => ((mac_Addr_String.f k (Int.tmod a0 281474976710656)).bind fun t211 => ((mac_Parse.f k t211).bind fun bt212 => (if bt209.2 = 0 then (if bt212.2 = 0 then (if bt209.1 = (Int.tmod a0 281474976710656) then (if bt212.1 = (Int.tmod a0 281474976710656) then ((mac_Addr_String.f k (Int.tmod a0 281474976710656)).bind fun t214 => (carousellaw02_MacBack.j0 k a1 ((t214.size : Int) != 17))) else (carousellaw02_MacBack.j0 k a1 true)) else (carousellaw02_MacBack.j0 k a1 true)) else (carousellaw02_MacBack.j0 k a1 true)) else (carousellaw02_MacBack.j0 k a1 true))))))) = some r := h
  clear h
  by_cases c3 : (a1.size : Int) > 200
  · rw [if_pos c3] at H
    have c3b0 : decide (200 < (a1.size : Int)) = true := decide_eq_true c3
    have c3b1 : decide (200 < a1.size) = true := decide_eq_true (by omega)
    clear c3
    replace H := Option.bind_eq_some_iff.mp H
    obtain ⟨t207, A40, H⟩ := H
    replace H : (some t207) = some r := H
    have A4 := Aside0.mk A40
    clear A40
    obtain rfl := Option.some.inj H
    go_enter Try.func4, Try.ntmps4
    go_wp2_with (first | ((with_reducible refine gate_callee (f := 15) rfl ?_); refine goesL_ (some 14) rfl rfl Try.func15 (by kernel_rfl) rfl #[] rfl (by (try simp only [List.map_toArray, List.map_cons, List.map_nil]); first | done | rfl | (simp only [List.length_drop, List.length_take]; rfl)) ?_; (with_reducible refine (carousellaw02_Awake.calls k  t207 _ A4.out).mono ?_); rintro e w5 ⟨rfl, hb⟩; refine ⟨_, rfl, ?_⟩; have n0_ := Aside0.mk (below_step (by repeat (first | (with_reducible first | exact HB.out | apply below_alloc | apply pw_below_drewN | apply below_drew1) | exact HB.out)) hb); clear HB; have HB := n0_; clear n0_; (try clear hb); (try clear hb2); (try clear hk); (try clear hi)))
    go_ret
    exact ⟨by first | rfl | (simp [errW_none, errW_some] <;> rfl) | (simp [*, errW_none, errW_some] <;> rfl), by repeat (first | (with_reducible first | exact HB.out | apply below_alloc | apply pw_below_drewN | apply below_drew1) | exact HB.out)⟩
  · rw [if_neg c3] at H
    have c3b0 : decide (200 < (a1.size : Int)) = false := decide_eq_false c3
    have c3b1 : decide (200 < a1.size) = false := decide_eq_false (by omega)
    clear c3
    replace H := Option.bind_eq_some_iff.mp H
    obtain ⟨t208, A60, H⟩ := H
    replace H : ((mac_Of.f k t208).bind fun bt209 => ((mac_Addr_String.f k (Int.tmod a0 281474976710656)).bind fun t211 => ((mac_Parse.f k t211).bind fun bt212 => (if bt209.2 = 0 then (if bt212.2 = 0 then (if bt209.1 = (Int.tmod a0 281474976710656) then (if bt212.1 = (Int.tmod a0 281474976710656) then ((mac_Addr_String.f k (Int.tmod a0 281474976710656)).bind fun t214 => (carousellaw02_MacBack.j0 k a1 ((t214.size : Int) != 17))) else (carousellaw02_MacBack.j0 k a1 true)) else (carousellaw02_MacBack.j0 k a1 true)) else (carousellaw02_MacBack.j0 k a1 true)) else (carousellaw02_MacBack.j0 k a1 true))))) = some r := H
    have A6 := Aside0.mk A60
    clear A60
    replace H := Option.bind_eq_some_iff.mp H
    obtain ⟨⟨t209, t210⟩, A70, H⟩ := H
    replace H : ((mac_Addr_String.f k (Int.tmod a0 281474976710656)).bind fun t211 => ((mac_Parse.f k t211).bind fun bt212 => (if t210 = 0 then (if bt212.2 = 0 then (if t209 = (Int.tmod a0 281474976710656) then (if bt212.1 = (Int.tmod a0 281474976710656) then ((mac_Addr_String.f k (Int.tmod a0 281474976710656)).bind fun t214 => (carousellaw02_MacBack.j0 k a1 ((t214.size : Int) != 17))) else (carousellaw02_MacBack.j0 k a1 true)) else (carousellaw02_MacBack.j0 k a1 true)) else (carousellaw02_MacBack.j0 k a1 true)) else (carousellaw02_MacBack.j0 k a1 true)))) = some r := H
    have A7 := Aside0.mk A70
    clear A70
    replace H := Option.bind_eq_some_iff.mp H
    obtain ⟨t211, A80, H⟩ := H
    replace H : ((mac_Parse.f k t211).bind fun bt212 => (if t210 = 0 then (if bt212.2 = 0 then (if t209 = (Int.tmod a0 281474976710656) then (if bt212.1 = (Int.tmod a0 281474976710656) then ((mac_Addr_String.f k (Int.tmod a0 281474976710656)).bind fun t214 => (carousellaw02_MacBack.j0 k a1 ((t214.size : Int) != 17))) else (carousellaw02_MacBack.j0 k a1 true)) else (carousellaw02_MacBack.j0 k a1 true)) else (carousellaw02_MacBack.j0 k a1 true)) else (carousellaw02_MacBack.j0 k a1 true))) = some r := H
    have A8 := Aside0.mk A80
    clear A80
    replace H := Option.bind_eq_some_iff.mp H
    obtain ⟨⟨t212, t213⟩, A90, H⟩ := H
    replace H : (if t210 = 0 then (if t213 = 0 then (if t209 = (Int.tmod a0 281474976710656) then (if t212 = (Int.tmod a0 281474976710656) then ((mac_Addr_String.f k (Int.tmod a0 281474976710656)).bind fun t214 => (carousellaw02_MacBack.j0 k a1 ((t214.size : Int) != 17))) else (carousellaw02_MacBack.j0 k a1 true)) else (carousellaw02_MacBack.j0 k a1 true)) else (carousellaw02_MacBack.j0 k a1 true)) else (carousellaw02_MacBack.j0 k a1 true)) = some r := H
    have A9 := Aside0.mk A90
    clear A90
    have HC10 := Aside0.mk H
    clear H
    go_enter Try.func4, Try.ntmps4
    go_upto_region 6 with (first | ((with_reducible refine gate_callee (f := 17) rfl ?_); refine goesL_ (some 19) rfl rfl Try.func17 (by kernel_rfl) rfl #[.int .u64 (Int.tmod a0 281474976710656)] rfl (by (try simp only [List.map_toArray, List.map_cons, List.map_nil]); first | done | rfl | (simp only [List.length_drop, List.length_take]; rfl)) ?_; (with_reducible refine (mac_Addr_Bytes.calls (Int.tmod a0 281474976710656) t208 _ A6.out).mono ?_); rintro e w11 ⟨rfl, hb⟩; refine ⟨_, rfl, ?_⟩; have n0_ := Aside0.mk (below_step (by repeat (first | (with_reducible first | exact HB.out | apply below_alloc | apply pw_below_drewN | apply below_drew1) | exact HB.out)) hb); clear HB; have HB := n0_; clear n0_; (try clear hb); (try clear hb2); (try clear hk); (try clear hi)) | ((with_reducible refine gate_callee (f := 16) rfl ?_); refine goesL_ (some 20) rfl rfl Try.func16 (by kernel_rfl) rfl #[.string t208] rfl (by (try simp only [List.map_toArray, List.map_cons, List.map_nil]); first | done | rfl | (simp only [List.length_drop, List.length_take]; rfl)) ?_; (with_reducible refine (mac_Of.calls k t208 t209 t210 _ A7.out).mono ?_); rintro e w12 ⟨rfl, hb⟩; refine ⟨_, rfl, ?_⟩; have n0_ := Aside0.mk (below_step (by repeat (first | (with_reducible first | exact HB.out | apply below_alloc | apply pw_below_drewN | apply below_drew1) | exact HB.out)) hb); clear HB; have HB := n0_; clear n0_; (try clear hb); (try clear hb2); (try clear hk); (try clear hi)) | ((with_reducible refine gate_callee (f := 19) rfl ?_); refine goesL_ (some 25) rfl rfl Try.func19 (by kernel_rfl) rfl #[.int .u64 (Int.tmod a0 281474976710656)] rfl (by (try simp only [List.map_toArray, List.map_cons, List.map_nil]); first | done | rfl | (simp only [List.length_drop, List.length_take]; rfl)) ?_; (with_reducible refine (mac_Addr_String.calls k (Int.tmod a0 281474976710656) t211 _ A8.out).mono ?_); rintro e w13 ⟨rfl, hb⟩; refine ⟨_, rfl, ?_⟩; have n0_ := Aside0.mk (below_step (by repeat (first | (with_reducible first | exact HB.out | apply below_alloc | apply pw_below_drewN | apply below_drew1) | exact HB.out)) hb); clear HB; have HB := n0_; clear n0_; (try clear hb); (try clear hb2); (try clear hk); (try clear hi)) | ((with_reducible refine gate_callee (f := 18) rfl ?_); refine goesL_ (some 26) rfl rfl Try.func18 (by kernel_rfl) rfl #[.string t211] rfl (by (try simp only [List.map_toArray, List.map_cons, List.map_nil]); first | done | rfl | (simp only [List.length_drop, List.length_take]; rfl)) ?_; (with_reducible refine (mac_Parse.calls k t211 t212 t213 _ A9.out).mono ?_); rintro e w' ⟨rfl, ⟨nd, rfl⟩⟩; refine ⟨_, rfl, ?_⟩))
    (try simp only [Act.put, List.setIfInBounds_toArray, List.set_cons_zero, List.set_cons_succ])
    go_cut [50] (fun v50 wc => ∃ (kq : Nat) (x50_9 : Bool), v50 = .bool x50_9 ∧ Aside0 (carousellaw02_MacBack.j0 kq a1 x50_9 = some r) ∧ Aside0 (kq ≤ k) ∧ Aside0 (Below w.heap.size w wc))
    case first =>
      have H := HC10.out
      clear HC10
      by_cases c14 : t210 = 0
      · rw [if_pos c14] at H
        have c14b0 : (t210 == 0) = true := beq_iff_eq.mpr c14
        have c14b1 : (t210 != 0) = false := bne_eq_false_iff_eq.mpr c14
        clear c14
        (first | rw [c14b0] | (simp only [i64_w, i32_w]; rw [c14b0]) | skip)
        by_cases c15 : t213 = 0
        · rw [if_pos c15] at H
          have c15b0 : (t213 == 0) = true := beq_iff_eq.mpr c15
          have c15b1 : (t213 != 0) = false := bne_eq_false_iff_eq.mpr c15
          clear c15
          by_cases c16 : t209 = (Int.tmod a0 281474976710656)
          · rw [if_pos c16] at H
            have c16b0 : (t209 == (Int.tmod a0 281474976710656)) = true := beq_iff_eq.mpr c16
            have c16b1 : (t209 != (Int.tmod a0 281474976710656)) = false := bne_eq_false_iff_eq.mpr c16
            clear c16
            by_cases c17 : t212 = (Int.tmod a0 281474976710656)
            · rw [if_pos c17] at H
              have c17b0 : (t212 == (Int.tmod a0 281474976710656)) = true := beq_iff_eq.mpr c17
              have c17b1 : (t212 != (Int.tmod a0 281474976710656)) = false := bne_eq_false_iff_eq.mpr c17
              clear c17
              replace H := Option.bind_eq_some_iff.mp H
              obtain ⟨t214, A180, H⟩ := H
              replace H : (carousellaw02_MacBack.j0 k a1 ((t214.size : Int) != 17)) = some r := H
              have A18 := Aside0.mk A180
              clear A180
              have H' := Aside0.mk H
              clear H
              go_wp2_with (first | (go_at_call 19; (with_reducible refine (mac_Addr_String.calls k (Int.tmod a0 281474976710656) t214 _ A18.out).mono ?_); rintro e w19 ⟨rfl, hb⟩; have n0_ := Aside0.mk (below_step (by repeat (first | (with_reducible first | exact HB.out | apply below_alloc | apply pw_below_drewN | apply below_drew1) | exact HB.out)) hb); clear HB; have HB := n0_; clear n0_; (try clear hb); (try clear hb2); (try clear hk); (try clear hi)))
              go_meet
              case rel => exact ⟨_, (((t214.size : Int) != 17)), (by first | rfl | (simp; done) | (simp [*]; done)), H', ⟨by first | omega | exact Nat.le_refl _⟩, ⟨by repeat (first | (with_reducible first | exact HB.out | apply below_alloc | apply pw_below_drewN | apply below_drew1) | exact HB.out)⟩⟩
            · rw [if_neg c17] at H
              have c17b0 : (t212 == (Int.tmod a0 281474976710656)) = false := beq_eq_false_iff_ne.mpr c17
              have c17b1 : (t212 != (Int.tmod a0 281474976710656)) = true := bne_iff_ne.mpr c17
              have H' := Aside0.mk H
              clear H
              go_wp2
              go_meet
              case rel => exact ⟨_, (true), (by first | rfl | (simp; done) | (simp [*]; done)), H', ⟨by first | omega | exact Nat.le_refl _⟩, ⟨by repeat (first | (with_reducible first | exact HB.out | apply below_alloc | apply pw_below_drewN | apply below_drew1) | exact HB.out)⟩⟩
          · rw [if_neg c16] at H
            have c16b0 : (t209 == (Int.tmod a0 281474976710656)) = false := beq_eq_false_iff_ne.mpr c16
            have c16b1 : (t209 != (Int.tmod a0 281474976710656)) = true := bne_iff_ne.mpr c16
            have H' := Aside0.mk H
            clear H
            go_wp2
            go_meet
            case rel => exact ⟨_, (true), (by first | rfl | (simp; done) | (simp [*]; done)), H', ⟨by first | omega | exact Nat.le_refl _⟩, ⟨by repeat (first | (with_reducible first | exact HB.out | apply below_alloc | apply pw_below_drewN | apply below_drew1) | exact HB.out)⟩⟩
        · rw [if_neg c15] at H
          have c15b0 : (t213 == 0) = false := beq_eq_false_iff_ne.mpr c15
          have c15b1 : (t213 != 0) = true := bne_iff_ne.mpr c15
          have H' := Aside0.mk H
          clear H
          go_wp2
          go_meet
          case rel => exact ⟨_, (true), (by first | rfl | (simp; done) | (simp [*]; done)), H', ⟨by first | omega | exact Nat.le_refl _⟩, ⟨by repeat (first | (with_reducible first | exact HB.out | apply below_alloc | apply pw_below_drewN | apply below_drew1) | exact HB.out)⟩⟩
      · rw [if_neg c14] at H
        have c14b0 : (t210 == 0) = false := beq_eq_false_iff_ne.mpr c14
        have c14b1 : (t210 != 0) = true := bne_iff_ne.mpr c14
        (first | rw [c14b0] | (simp only [i64_w, i32_w]; rw [c14b0]) | skip)
        have H' := Aside0.mk H
        clear H
        go_wp2
        go_meet
        case rel => exact ⟨_, (true), (by first | rfl | (simp; done) | (simp [*]; done)), H', ⟨by first | omega | exact Nat.le_refl _⟩, ⟨by repeat (first | (with_reducible first | exact HB.out | apply below_alloc | apply pw_below_drewN | apply below_drew1) | exact HB.out)⟩⟩
    case rest =>
      clear HC10
      try clear c1
      try clear p2
      try clear c3
      try clear c3b0
      try clear c3b1
      try clear c4
      try clear c14
      try clear c14b0
      try clear c14b1
      try clear c15
      try clear c15b0
      try clear c15b1
      try clear c16
      try clear c16b0
      try clear c16b1
      try clear c17
      try clear c17b0
      try clear c17b1
      try clear c18
      try clear c19
      obtain ⟨kq, x50_9, rfl, HA, HJ9, HB⟩ := hcut
      cases kq with
      | zero => exact absurd HA.out (by simp [carousellaw02_MacBack.j0])
      | succ kj9 =>
        have H := HA.out
        clear HA
        simp only [carousellaw02_MacBack.j0] at H
        by_cases c20 : x50_9 = true
        · subst c20
          have H1 : (some false) = some r := by rw [if_pos rfl] at H; exact H
          clear H
          have H := H1
          clear H1
          obtain rfl := Option.some.inj H
          go_wp2
          go_ret
          exact ⟨by first | rfl | (simp [errW_none, errW_some] <;> rfl) | (simp [*, errW_none, errW_some] <;> rfl), by repeat (first | (with_reducible first | exact HB.out | apply below_alloc | apply pw_below_drewN | apply below_drew1) | exact HB.out)⟩
        · replace c20 := Bool.eq_false_iff.mpr c20
          subst c20
          have H1 : ((mac_Parse.f kj9 a1).bind fun bt215 => ((carousellaw02_Awake.f kj9).bind fun t217 => (if t217 = true then (if bt215.2 = 0 then ((mac_Addr_String.f kj9 bt215.1).bind fun t218 => (if t218.toList = a1.toList then ((mac_Addr_May.f bt215.1).bind fun t219 => (some t219)) else (some false))) else (some true)) else (some false)))) = some r := by rw [if_neg (show ¬ (false = true) by decide)] at H; exact H
          clear H
          have H := H1
          clear H1
          replace H := Option.bind_eq_some_iff.mp H
          obtain ⟨⟨t215, t216⟩, A210, H⟩ := H
          replace H : ((carousellaw02_Awake.f kj9).bind fun t217 => (if t217 = true then (if t216 = 0 then ((mac_Addr_String.f kj9 t215).bind fun t218 => (if t218.toList = a1.toList then ((mac_Addr_May.f t215).bind fun t219 => (some t219)) else (some false))) else (some true)) else (some false))) = some r := H
          have A21 := Aside0.mk A210
          clear A210
          replace H := Option.bind_eq_some_iff.mp H
          obtain ⟨t217, A220, H⟩ := H
          replace H : (if t217 = true then (if t216 = 0 then ((mac_Addr_String.f kj9 t215).bind fun t218 => (if t218.toList = a1.toList then ((mac_Addr_May.f t215).bind fun t219 => (some t219)) else (some false))) else (some true)) else (some false)) = some r := H
          have A22 := Aside0.mk A220
          clear A220
          by_cases c23 : t217 = true
          · subst c23
            have H1 : (if t216 = 0 then ((mac_Addr_String.f kj9 t215).bind fun t218 => (if t218.toList = a1.toList then ((mac_Addr_May.f t215).bind fun t219 => (some t219)) else (some false))) else (some true)) = some r := by rw [if_pos rfl] at H; exact H
            clear H
            have H := H1
            clear H1
            by_cases c24 : t216 = 0
            · rw [if_pos c24] at H
              have c24b0 : (t216 == 0) = true := beq_iff_eq.mpr c24
              have c24b1 : (t216 != 0) = false := bne_eq_false_iff_eq.mpr c24
              clear c24
              replace H := Option.bind_eq_some_iff.mp H
              obtain ⟨t218, A250, H⟩ := H
              replace H : (if t218.toList = a1.toList then ((mac_Addr_May.f t215).bind fun t219 => (some t219)) else (some false)) = some r := H
              have A25 := Aside0.mk A250
              clear A250
              by_cases c26 : t218.toList = a1.toList
              · rw [if_pos c26] at H
                have c26b0 : (t218.toList == a1.toList) = true := beq_iff_eq.mpr c26
                have c26b1 : (t218.toList != a1.toList) = false := bne_eq_false_iff_eq.mpr c26
                clear c26
                replace H := Option.bind_eq_some_iff.mp H
                obtain ⟨t219, A270, H⟩ := H
                replace H : (some t219) = some r := H
                have A27 := Aside0.mk A270
                clear A270
                obtain rfl := Option.some.inj H
                go_wp2_with (first | ((with_reducible refine gate_callee (f := 18) rfl ?_); refine goesL_ (some 53) rfl rfl Try.func18 (by kernel_rfl) rfl #[.string a1] rfl (by (try simp only [List.map_toArray, List.map_cons, List.map_nil]); first | done | rfl | (simp only [List.length_drop, List.length_take]; rfl)) ?_; (with_reducible refine (mac_Parse.calls kj9 a1 t215 t216 _ A21.out).mono ?_); rintro e w' ⟨rfl, ⟨nd, rfl⟩⟩; refine ⟨_, rfl, ?_⟩) | ((with_reducible refine gate_callee (f := 15) rfl ?_); refine goesL_ (some 56) rfl rfl Try.func15 (by kernel_rfl) rfl #[] rfl (by (try simp only [List.map_toArray, List.map_cons, List.map_nil]); first | done | rfl | (simp only [List.length_drop, List.length_take]; rfl)) ?_; (with_reducible refine (carousellaw02_Awake.calls kj9  true _ A22.out).mono ?_); rintro e w28 ⟨rfl, hb⟩; refine ⟨_, rfl, ?_⟩; have n0_ := Aside0.mk (below_step (by repeat (first | (with_reducible first | exact HB.out | apply below_alloc | apply pw_below_drewN | apply below_drew1) | exact HB.out)) hb); clear HB; have HB := n0_; clear n0_; (try clear hb); (try clear hb2); (try clear hk); (try clear hi)) | (go_at_call 19; (with_reducible refine (mac_Addr_String.calls kj9 t215 t218 _ A25.out).mono ?_); rintro e w29 ⟨rfl, hb⟩; have n0_ := Aside0.mk (below_step (by repeat (first | (with_reducible first | exact HB.out | apply below_alloc | apply pw_below_drewN | apply below_drew1) | exact HB.out)) hb); clear HB; have HB := n0_; clear n0_; (try clear hb); (try clear hb2); (try clear hk); (try clear hi)) | (go_at_call 20; (with_reducible refine (mac_Addr_May.calls t215 t219 _ A27.out).mono ?_); rintro e w' ⟨rfl, ⟨nd, rfl⟩⟩))
                go_ret
                exact ⟨by first | rfl | (simp [errW_none, errW_some] <;> rfl) | (simp [*, errW_none, errW_some] <;> rfl), by repeat (first | (with_reducible first | exact HB.out | apply below_alloc | apply pw_below_drewN | apply below_drew1) | exact HB.out)⟩
              · rw [if_neg c26] at H
                have c26b0 : (t218.toList == a1.toList) = false := beq_eq_false_iff_ne.mpr c26
                have c26b1 : (t218.toList != a1.toList) = true := bne_iff_ne.mpr c26
                obtain rfl := Option.some.inj H
                go_wp2_with (first | ((with_reducible refine gate_callee (f := 18) rfl ?_); refine goesL_ (some 53) rfl rfl Try.func18 (by kernel_rfl) rfl #[.string a1] rfl (by (try simp only [List.map_toArray, List.map_cons, List.map_nil]); first | done | rfl | (simp only [List.length_drop, List.length_take]; rfl)) ?_; (with_reducible refine (mac_Parse.calls kj9 a1 t215 t216 _ A21.out).mono ?_); rintro e w' ⟨rfl, ⟨nd, rfl⟩⟩; refine ⟨_, rfl, ?_⟩) | ((with_reducible refine gate_callee (f := 15) rfl ?_); refine goesL_ (some 56) rfl rfl Try.func15 (by kernel_rfl) rfl #[] rfl (by (try simp only [List.map_toArray, List.map_cons, List.map_nil]); first | done | rfl | (simp only [List.length_drop, List.length_take]; rfl)) ?_; (with_reducible refine (carousellaw02_Awake.calls kj9  true _ A22.out).mono ?_); rintro e w30 ⟨rfl, hb⟩; refine ⟨_, rfl, ?_⟩; have n0_ := Aside0.mk (below_step (by repeat (first | (with_reducible first | exact HB.out | apply below_alloc | apply pw_below_drewN | apply below_drew1) | exact HB.out)) hb); clear HB; have HB := n0_; clear n0_; (try clear hb); (try clear hb2); (try clear hk); (try clear hi)) | (go_at_call 19; (with_reducible refine (mac_Addr_String.calls kj9 t215 t218 _ A25.out).mono ?_); rintro e w31 ⟨rfl, hb⟩; have n0_ := Aside0.mk (below_step (by repeat (first | (with_reducible first | exact HB.out | apply below_alloc | apply pw_below_drewN | apply below_drew1) | exact HB.out)) hb); clear HB; have HB := n0_; clear n0_; (try clear hb); (try clear hb2); (try clear hk); (try clear hi)))
                go_ret
                exact ⟨by first | rfl | (simp [errW_none, errW_some] <;> rfl) | (simp [*, errW_none, errW_some] <;> rfl), by repeat (first | (with_reducible first | exact HB.out | apply below_alloc | apply pw_below_drewN | apply below_drew1) | exact HB.out)⟩
            · rw [if_neg c24] at H
              have c24b0 : (t216 == 0) = false := beq_eq_false_iff_ne.mpr c24
              have c24b1 : (t216 != 0) = true := bne_iff_ne.mpr c24
              obtain rfl := Option.some.inj H
              go_wp2_with (first | ((with_reducible refine gate_callee (f := 18) rfl ?_); refine goesL_ (some 53) rfl rfl Try.func18 (by kernel_rfl) rfl #[.string a1] rfl (by (try simp only [List.map_toArray, List.map_cons, List.map_nil]); first | done | rfl | (simp only [List.length_drop, List.length_take]; rfl)) ?_; (with_reducible refine (mac_Parse.calls kj9 a1 t215 t216 _ A21.out).mono ?_); rintro e w' ⟨rfl, ⟨nd, rfl⟩⟩; refine ⟨_, rfl, ?_⟩) | ((with_reducible refine gate_callee (f := 15) rfl ?_); refine goesL_ (some 56) rfl rfl Try.func15 (by kernel_rfl) rfl #[] rfl (by (try simp only [List.map_toArray, List.map_cons, List.map_nil]); first | done | rfl | (simp only [List.length_drop, List.length_take]; rfl)) ?_; (with_reducible refine (carousellaw02_Awake.calls kj9  true _ A22.out).mono ?_); rintro e w32 ⟨rfl, hb⟩; refine ⟨_, rfl, ?_⟩; have n0_ := Aside0.mk (below_step (by repeat (first | (with_reducible first | exact HB.out | apply below_alloc | apply pw_below_drewN | apply below_drew1) | exact HB.out)) hb); clear HB; have HB := n0_; clear n0_; (try clear hb); (try clear hb2); (try clear hk); (try clear hi)))
              go_ret
              exact ⟨by first | rfl | (simp [errW_none, errW_some] <;> rfl) | (simp [*, errW_none, errW_some] <;> rfl), by repeat (first | (with_reducible first | exact HB.out | apply below_alloc | apply pw_below_drewN | apply below_drew1) | exact HB.out)⟩
          · replace c23 := Bool.eq_false_iff.mpr c23
            subst c23
            have H1 : (some false) = some r := by rw [if_neg (show ¬ (false = true) by decide)] at H; exact H
            clear H
            have H := H1
            clear H1
            obtain rfl := Option.some.inj H
            go_wp2_with (first | ((with_reducible refine gate_callee (f := 18) rfl ?_); refine goesL_ (some 53) rfl rfl Try.func18 (by kernel_rfl) rfl #[.string a1] rfl (by (try simp only [List.map_toArray, List.map_cons, List.map_nil]); first | done | rfl | (simp only [List.length_drop, List.length_take]; rfl)) ?_; (with_reducible refine (mac_Parse.calls kj9 a1 t215 t216 _ A21.out).mono ?_); rintro e w' ⟨rfl, ⟨nd, rfl⟩⟩; refine ⟨_, rfl, ?_⟩) | ((with_reducible refine gate_callee (f := 15) rfl ?_); refine goesL_ (some 56) rfl rfl Try.func15 (by kernel_rfl) rfl #[] rfl (by (try simp only [List.map_toArray, List.map_cons, List.map_nil]); first | done | rfl | (simp only [List.length_drop, List.length_take]; rfl)) ?_; (with_reducible refine (carousellaw02_Awake.calls kj9  false _ A22.out).mono ?_); rintro e w33 ⟨rfl, hb⟩; refine ⟨_, rfl, ?_⟩; have n0_ := Aside0.mk (below_step (by repeat (first | (with_reducible first | exact HB.out | apply below_alloc | apply pw_below_drewN | apply below_drew1) | exact HB.out)) hb); clear HB; have HB := n0_; clear n0_; (try clear hb); (try clear hb2); (try clear hk); (try clear hi)))
            go_ret
            exact ⟨by first | rfl | (simp [errW_none, errW_some] <;> rfl) | (simp [*, errW_none, errW_some] <;> rfl), by repeat (first | (with_reducible first | exact HB.out | apply below_alloc | apply pw_below_drewN | apply below_drew1) | exact HB.out)⟩

/-- THE ONE PURE STATEMENT of carousellaw02_MacBack: yours. -/
def carousellaw02_MacBack.Pure : Prop := ∀ (a0 : Int) (a1 : ByteArray), (Lit.int .u64 a0).wf = true → a1.size ≤ 140737488351232 → ∃ k, carousellaw02_MacBack.f k a0 a1 = some true
theorem carousellaw02_MacBack.walk (P : carousellaw02_MacBack.Pure) (a0 : Int) (a1 : ByteArray) (w : World) (w0_0 : (Lit.int .u64 a0).wf = true) (w1_0 : a1.size ≤ 140737488351232) :
    Calls Try.prog 4 #[.int .u64 a0, .string a1] w fun e w' => e = .returned (.bool true) ∧ Below w.heap.size w w' := by
  obtain ⟨k, h⟩ := P a0 a1 w0_0 w1_0
  refine (carousellaw02_MacBack.calls k a0 a1 true w h).mono ?_
  rintro e w' ⟨rfl, hd⟩
  exact ⟨rfl, hd⟩

end Go.Proofs.Ytmdaaphjndjakaf.PAll
