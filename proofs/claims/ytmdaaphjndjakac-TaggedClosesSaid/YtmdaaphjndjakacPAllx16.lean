-- Written by a program of this work, after the translation.
import Derived.Test.YtmdaaphjndjakacPAllx0
import Derived.Test.YtmdaaphjndjakacPAllx3
import Derived.Test.YtmdaaphjndjakacPAllx11
import Derived.Test.YtmdaaphjndjakacPAllx14
import Derived.Test.YtmdaaphjndjakacPAllx15
namespace Go.Proofs.Ytmdaaphjndjakac.PAll
open Go.RowKit Go.Proofs.YtmdaaphjndjakacW.PrintWords Go.Proofs.YtmdaaphjndjakacW.PrintLast Go.Proofs.YtmdaaphjndjakacW.PrintMore
attribute [local go_sem] max2_int min2_int max_two min_two max_three min_three max_four min_four   -- for this text's walks alone
set_option linter.unusedVariables false
set_option linter.unusedSimpArgs false

/-! ### carousellaw02_Awake: function 50 -/
def carousellaw02_Awake.f (k : Nat)  : Option (Bool) := (mac_Parse.f k (⟨#[48, 49, 58, 49, 57, 58, 97, 55, 58, 48, 48, 58, 48, 48, 58, 48, 49]⟩ : ByteArray)).bind fun bt181 => ((carousellaw01_Awake.f).bind fun t183 => (if t183 = true then (if bt181.2 = 0 then ((mac_Addr_Group.f bt181.1).bind fun t184 => (if t184 = true then ((mac_Addr_Bytes.f bt181.1).bind fun t185 => (if t185.toList = ([1, 25, 167, 0, 0, 1] : List UInt8) then ((mac_Addr_Group.f 2).bind fun t186 => (some (!t186))) else (some false))) else (some false))) else (some false)) else (some false)))
theorem carousellaw02_Awake.mono : ∀ k, LeO (carousellaw02_Awake.f k ) (carousellaw02_Awake.f (k + 1) ) := by
  intro  k
  unfold carousellaw02_Awake.f
  repeat' first
      | (with_reducible exact mac_Parse.mono _ _)
      | (with_reducible exact LeO.refl _)
      | (with_reducible exact LeO.none _)
      | (with_reducible refine LeO.ite ?_ ?_)
      | (with_reducible refine LeO.bind ?_ (fun _ => ?_))
      | exact mac_Parse.mono _ _
      | exact LeO.none _
      | refine LeO.ite ?_ ?_
      | refine LeO.bind ?_ (fun _ => ?_)
set_option maxHeartbeats 8000000 in
set_option maxRecDepth 100000 in
theorem carousellaw02_Awake.calls (k : Nat)  (r : Bool) (w : World) (h : carousellaw02_Awake.f k  = some r) :
    Calls Try.prog 50 #[] w fun e w' => e = .returned (.bool r) ∧ Below w.heap.size w w' := by
  have HB := Aside0.mk (Below.refl w.heap.size w)
  have H : ((mac_Parse.f k (⟨#[48, 49, 58, 49, 57, 58, 97, 55, 58, 48, 48, 58, 48, 48, 58, 48, 49]⟩ : ByteArray)).bind fun bt181 => ((carousellaw01_Awake.f).bind fun t183 => (if t183 = true then (if bt181.2 = 0 then ((mac_Addr_Group.f bt181.1).bind fun t184 => (if t184 = true then ((mac_Addr_Bytes.f bt181.1).bind fun t185 => (if t185.toList = ([1, 25, 167, 0, 0, 1] : List UInt8) then ((mac_Addr_Group.f 2).bind fun t186 => (some (!t186))) else (some false))) else (some false))) else (some false)) else (some false)))) = some r := h
  clear h
  replace H := Option.bind_eq_some_iff.mp H
  obtain ⟨⟨t181, t182⟩, A10, H⟩ := H
  replace H : ((carousellaw01_Awake.f).bind fun t183 => (if t183 = true then (if t182 = 0 then ((mac_Addr_Group.f t181).bind fun t184 => (if t184 = true then ((mac_Addr_Bytes.f t181).bind fun t185 => (if t185.toList = ([1, 25, 167, 0, 0, 1] : List UInt8) then ((mac_Addr_Group.f 2).bind fun t186 => (some (!t186))) else (some false))) else (some false))) else (some false)) else (some false))) = some r := H
  have A1 := Aside0.mk A10
  clear A10
  replace H := Option.bind_eq_some_iff.mp H
  obtain ⟨t183, A20, H⟩ := H
  replace H : (if t183 = true then (if t182 = 0 then ((mac_Addr_Group.f t181).bind fun t184 => (if t184 = true then ((mac_Addr_Bytes.f t181).bind fun t185 => (if t185.toList = ([1, 25, 167, 0, 0, 1] : List UInt8) then ((mac_Addr_Group.f 2).bind fun t186 => (some (!t186))) else (some false))) else (some false))) else (some false)) else (some false)) = some r := H
  have A2 := Aside0.mk A20
  clear A20
  by_cases c3 : t183 = true
  · subst c3
    have H1 : (if t182 = 0 then ((mac_Addr_Group.f t181).bind fun t184 => (if t184 = true then ((mac_Addr_Bytes.f t181).bind fun t185 => (if t185.toList = ([1, 25, 167, 0, 0, 1] : List UInt8) then ((mac_Addr_Group.f 2).bind fun t186 => (some (!t186))) else (some false))) else (some false))) else (some false)) = some r := by rw [if_pos rfl] at H; exact H
    clear H
    have H := H1
    clear H1
    by_cases c4 : t182 = 0
    · rw [if_pos c4] at H
      have c4b0 : (t182 == 0) = true := beq_iff_eq.mpr c4
      have c4b1 : (t182 != 0) = false := bne_eq_false_iff_eq.mpr c4
      clear c4
      replace H := Option.bind_eq_some_iff.mp H
      obtain ⟨t184, A50, H⟩ := H
      replace H : (if t184 = true then ((mac_Addr_Bytes.f t181).bind fun t185 => (if t185.toList = ([1, 25, 167, 0, 0, 1] : List UInt8) then ((mac_Addr_Group.f 2).bind fun t186 => (some (!t186))) else (some false))) else (some false)) = some r := H
      have A5 := Aside0.mk A50
      clear A50
      by_cases c6 : t184 = true
      · subst c6
        have H1 : ((mac_Addr_Bytes.f t181).bind fun t185 => (if t185.toList = ([1, 25, 167, 0, 0, 1] : List UInt8) then ((mac_Addr_Group.f 2).bind fun t186 => (some (!t186))) else (some false))) = some r := by rw [if_pos rfl] at H; exact H
        clear H
        have H := H1
        clear H1
        replace H := Option.bind_eq_some_iff.mp H
        obtain ⟨t185, A70, H⟩ := H
        replace H : (if t185.toList = ([1, 25, 167, 0, 0, 1] : List UInt8) then ((mac_Addr_Group.f 2).bind fun t186 => (some (!t186))) else (some false)) = some r := H
        have A7 := Aside0.mk A70
        clear A70
        by_cases c8 : t185.toList = ([1, 25, 167, 0, 0, 1] : List UInt8)
        · rw [if_pos c8] at H
          have c8b0 : (t185.toList == ([1, 25, 167, 0, 0, 1] : List UInt8)) = true := beq_iff_eq.mpr c8
          have c8b1 : (t185.toList != ([1, 25, 167, 0, 0, 1] : List UInt8)) = false := bne_eq_false_iff_eq.mpr c8
          clear c8
          replace H := Option.bind_eq_some_iff.mp H
          obtain ⟨t186, A90, H⟩ := H
          replace H : (some (!t186)) = some r := H
          have A9 := Aside0.mk A90
          clear A90
          obtain rfl := Option.some.inj H
          go_enter Try.func50, Try.ntmps50
          go_wp2_with (first | ((with_reducible refine gate_callee (f := 63) rfl ?_); refine goesL_ (some 4) rfl rfl Try.func63 (by kernel_rfl) rfl #[.string (⟨#[48, 49, 58, 49, 57, 58, 97, 55, 58, 48, 48, 58, 48, 48, 58, 48, 49]⟩ : ByteArray)] rfl (by (try simp only [List.map_toArray, List.map_cons, List.map_nil]); first | done | rfl | (simp only [List.length_drop, List.length_take]; rfl)) ?_; (with_reducible refine (mac_Parse.calls k (⟨#[48, 49, 58, 49, 57, 58, 97, 55, 58, 48, 48, 58, 48, 48, 58, 48, 49]⟩ : ByteArray) t181 t182 _ A1.out).mono ?_); rintro e w' ⟨rfl, ⟨nd, rfl⟩⟩; refine ⟨_, rfl, ?_⟩) | ((with_reducible refine gate_callee (f := 9) rfl ?_); refine goesL_ (some 7) rfl rfl Try.func9 (by kernel_rfl) rfl #[] rfl (by (try simp only [List.map_toArray, List.map_cons, List.map_nil]); first | done | rfl | (simp only [List.length_drop, List.length_take]; rfl)) ?_; (with_reducible refine (carousellaw01_Awake.calls  true _ A2.out).mono ?_); rintro e w10 ⟨rfl, hb⟩; refine ⟨_, rfl, ?_⟩; have n0_ := Aside0.mk (below_step (by repeat (first | (with_reducible first | exact HB.out | apply below_alloc | apply pw_below_drewN | apply below_drew1) | exact HB.out)) hb); clear HB; have HB := n0_; clear n0_; (try clear hb); (try clear hb2); (try clear hk); (try clear hi)) | (go_at_call 25; (with_reducible refine (mac_Addr_Group.calls t181 true _ A5.out).mono ?_); rintro e w' ⟨rfl, ⟨nd, rfl⟩⟩) | (go_at_call 64; (with_reducible refine (mac_Addr_Bytes.calls t181 t185 _ A7.out).mono ?_); rintro e w11 ⟨rfl, hb⟩; have n0_ := Aside0.mk (below_step (by repeat (first | (with_reducible first | exact HB.out | apply below_alloc | apply pw_below_drewN | apply below_drew1) | exact HB.out)) hb); clear HB; have HB := n0_; clear n0_; (try clear hb); (try clear hb2); (try clear hk); (try clear hi)) | (go_at_call 25; (with_reducible refine (mac_Addr_Group.calls 2 t186 _ A9.out).mono ?_); rintro e w' ⟨rfl, ⟨nd, rfl⟩⟩))
          go_ret
          exact ⟨by first | rfl | (simp [errW_none, errW_some] <;> rfl) | (simp [*, errW_none, errW_some] <;> rfl), by repeat (first | (with_reducible first | exact HB.out | apply below_alloc | apply pw_below_drewN | apply below_drew1) | exact HB.out)⟩
        · rw [if_neg c8] at H
          have c8b0 : (t185.toList == ([1, 25, 167, 0, 0, 1] : List UInt8)) = false := beq_eq_false_iff_ne.mpr c8
          have c8b1 : (t185.toList != ([1, 25, 167, 0, 0, 1] : List UInt8)) = true := bne_iff_ne.mpr c8
          obtain rfl := Option.some.inj H
          go_enter Try.func50, Try.ntmps50
          go_wp2_with (first | ((with_reducible refine gate_callee (f := 63) rfl ?_); refine goesL_ (some 4) rfl rfl Try.func63 (by kernel_rfl) rfl #[.string (⟨#[48, 49, 58, 49, 57, 58, 97, 55, 58, 48, 48, 58, 48, 48, 58, 48, 49]⟩ : ByteArray)] rfl (by (try simp only [List.map_toArray, List.map_cons, List.map_nil]); first | done | rfl | (simp only [List.length_drop, List.length_take]; rfl)) ?_; (with_reducible refine (mac_Parse.calls k (⟨#[48, 49, 58, 49, 57, 58, 97, 55, 58, 48, 48, 58, 48, 48, 58, 48, 49]⟩ : ByteArray) t181 t182 _ A1.out).mono ?_); rintro e w' ⟨rfl, ⟨nd, rfl⟩⟩; refine ⟨_, rfl, ?_⟩) | ((with_reducible refine gate_callee (f := 9) rfl ?_); refine goesL_ (some 7) rfl rfl Try.func9 (by kernel_rfl) rfl #[] rfl (by (try simp only [List.map_toArray, List.map_cons, List.map_nil]); first | done | rfl | (simp only [List.length_drop, List.length_take]; rfl)) ?_; (with_reducible refine (carousellaw01_Awake.calls  true _ A2.out).mono ?_); rintro e w12 ⟨rfl, hb⟩; refine ⟨_, rfl, ?_⟩; have n0_ := Aside0.mk (below_step (by repeat (first | (with_reducible first | exact HB.out | apply below_alloc | apply pw_below_drewN | apply below_drew1) | exact HB.out)) hb); clear HB; have HB := n0_; clear n0_; (try clear hb); (try clear hb2); (try clear hk); (try clear hi)) | (go_at_call 25; (with_reducible refine (mac_Addr_Group.calls t181 true _ A5.out).mono ?_); rintro e w' ⟨rfl, ⟨nd, rfl⟩⟩) | (go_at_call 64; (with_reducible refine (mac_Addr_Bytes.calls t181 t185 _ A7.out).mono ?_); rintro e w13 ⟨rfl, hb⟩; have n0_ := Aside0.mk (below_step (by repeat (first | (with_reducible first | exact HB.out | apply below_alloc | apply pw_below_drewN | apply below_drew1) | exact HB.out)) hb); clear HB; have HB := n0_; clear n0_; (try clear hb); (try clear hb2); (try clear hk); (try clear hi)))
          go_ret
          exact ⟨by first | rfl | (simp [errW_none, errW_some] <;> rfl) | (simp [*, errW_none, errW_some] <;> rfl), by repeat (first | (with_reducible first | exact HB.out | apply below_alloc | apply pw_below_drewN | apply below_drew1) | exact HB.out)⟩
      · replace c6 := Bool.eq_false_iff.mpr c6
        subst c6
        have H1 : (some false) = some r := by rw [if_neg (show ¬ (false = true) by decide)] at H; exact H
        clear H
        have H := H1
        clear H1
        obtain rfl := Option.some.inj H
        go_enter Try.func50, Try.ntmps50
        go_wp2_with (first | ((with_reducible refine gate_callee (f := 63) rfl ?_); refine goesL_ (some 4) rfl rfl Try.func63 (by kernel_rfl) rfl #[.string (⟨#[48, 49, 58, 49, 57, 58, 97, 55, 58, 48, 48, 58, 48, 48, 58, 48, 49]⟩ : ByteArray)] rfl (by (try simp only [List.map_toArray, List.map_cons, List.map_nil]); first | done | rfl | (simp only [List.length_drop, List.length_take]; rfl)) ?_; (with_reducible refine (mac_Parse.calls k (⟨#[48, 49, 58, 49, 57, 58, 97, 55, 58, 48, 48, 58, 48, 48, 58, 48, 49]⟩ : ByteArray) t181 t182 _ A1.out).mono ?_); rintro e w' ⟨rfl, ⟨nd, rfl⟩⟩; refine ⟨_, rfl, ?_⟩) | ((with_reducible refine gate_callee (f := 9) rfl ?_); refine goesL_ (some 7) rfl rfl Try.func9 (by kernel_rfl) rfl #[] rfl (by (try simp only [List.map_toArray, List.map_cons, List.map_nil]); first | done | rfl | (simp only [List.length_drop, List.length_take]; rfl)) ?_; (with_reducible refine (carousellaw01_Awake.calls  true _ A2.out).mono ?_); rintro e w14 ⟨rfl, hb⟩; refine ⟨_, rfl, ?_⟩; have n0_ := Aside0.mk (below_step (by repeat (first | (with_reducible first | exact HB.out | apply below_alloc | apply pw_below_drewN | apply below_drew1) | exact HB.out)) hb); clear HB; have HB := n0_; clear n0_; (try clear hb); (try clear hb2); (try clear hk); (try clear hi)) | (go_at_call 25; (with_reducible refine (mac_Addr_Group.calls t181 false _ A5.out).mono ?_); rintro e w' ⟨rfl, ⟨nd, rfl⟩⟩))
        go_ret
        exact ⟨by first | rfl | (simp [errW_none, errW_some] <;> rfl) | (simp [*, errW_none, errW_some] <;> rfl), by repeat (first | (with_reducible first | exact HB.out | apply below_alloc | apply pw_below_drewN | apply below_drew1) | exact HB.out)⟩
    · rw [if_neg c4] at H
      have c4b0 : (t182 == 0) = false := beq_eq_false_iff_ne.mpr c4
      have c4b1 : (t182 != 0) = true := bne_iff_ne.mpr c4
      obtain rfl := Option.some.inj H
      go_enter Try.func50, Try.ntmps50
      go_wp2_with (first | ((with_reducible refine gate_callee (f := 63) rfl ?_); refine goesL_ (some 4) rfl rfl Try.func63 (by kernel_rfl) rfl #[.string (⟨#[48, 49, 58, 49, 57, 58, 97, 55, 58, 48, 48, 58, 48, 48, 58, 48, 49]⟩ : ByteArray)] rfl (by (try simp only [List.map_toArray, List.map_cons, List.map_nil]); first | done | rfl | (simp only [List.length_drop, List.length_take]; rfl)) ?_; (with_reducible refine (mac_Parse.calls k (⟨#[48, 49, 58, 49, 57, 58, 97, 55, 58, 48, 48, 58, 48, 48, 58, 48, 49]⟩ : ByteArray) t181 t182 _ A1.out).mono ?_); rintro e w' ⟨rfl, ⟨nd, rfl⟩⟩; refine ⟨_, rfl, ?_⟩) | ((with_reducible refine gate_callee (f := 9) rfl ?_); refine goesL_ (some 7) rfl rfl Try.func9 (by kernel_rfl) rfl #[] rfl (by (try simp only [List.map_toArray, List.map_cons, List.map_nil]); first | done | rfl | (simp only [List.length_drop, List.length_take]; rfl)) ?_; (with_reducible refine (carousellaw01_Awake.calls  true _ A2.out).mono ?_); rintro e w15 ⟨rfl, hb⟩; refine ⟨_, rfl, ?_⟩; have n0_ := Aside0.mk (below_step (by repeat (first | (with_reducible first | exact HB.out | apply below_alloc | apply pw_below_drewN | apply below_drew1) | exact HB.out)) hb); clear HB; have HB := n0_; clear n0_; (try clear hb); (try clear hb2); (try clear hk); (try clear hi)))
      go_ret
      exact ⟨by first | rfl | (simp [errW_none, errW_some] <;> rfl) | (simp [*, errW_none, errW_some] <;> rfl), by repeat (first | (with_reducible first | exact HB.out | apply below_alloc | apply pw_below_drewN | apply below_drew1) | exact HB.out)⟩
  · replace c3 := Bool.eq_false_iff.mpr c3
    subst c3
    have H1 : (some false) = some r := by rw [if_neg (show ¬ (false = true) by decide)] at H; exact H
    clear H
    have H := H1
    clear H1
    obtain rfl := Option.some.inj H
    go_enter Try.func50, Try.ntmps50
    go_wp2_with (first | ((with_reducible refine gate_callee (f := 63) rfl ?_); refine goesL_ (some 4) rfl rfl Try.func63 (by kernel_rfl) rfl #[.string (⟨#[48, 49, 58, 49, 57, 58, 97, 55, 58, 48, 48, 58, 48, 48, 58, 48, 49]⟩ : ByteArray)] rfl (by (try simp only [List.map_toArray, List.map_cons, List.map_nil]); first | done | rfl | (simp only [List.length_drop, List.length_take]; rfl)) ?_; (with_reducible refine (mac_Parse.calls k (⟨#[48, 49, 58, 49, 57, 58, 97, 55, 58, 48, 48, 58, 48, 48, 58, 48, 49]⟩ : ByteArray) t181 t182 _ A1.out).mono ?_); rintro e w' ⟨rfl, ⟨nd, rfl⟩⟩; refine ⟨_, rfl, ?_⟩) | ((with_reducible refine gate_callee (f := 9) rfl ?_); refine goesL_ (some 7) rfl rfl Try.func9 (by kernel_rfl) rfl #[] rfl (by (try simp only [List.map_toArray, List.map_cons, List.map_nil]); first | done | rfl | (simp only [List.length_drop, List.length_take]; rfl)) ?_; (with_reducible refine (carousellaw01_Awake.calls  false _ A2.out).mono ?_); rintro e w16 ⟨rfl, hb⟩; refine ⟨_, rfl, ?_⟩; have n0_ := Aside0.mk (below_step (by repeat (first | (with_reducible first | exact HB.out | apply below_alloc | apply pw_below_drewN | apply below_drew1) | exact HB.out)) hb); clear HB; have HB := n0_; clear n0_; (try clear hb); (try clear hb2); (try clear hk); (try clear hi)))
    go_ret
    exact ⟨by first | rfl | (simp [errW_none, errW_some] <;> rfl) | (simp [*, errW_none, errW_some] <;> rfl), by repeat (first | (with_reducible first | exact HB.out | apply below_alloc | apply pw_below_drewN | apply below_drew1) | exact HB.out)⟩

/-! ### carousellaw03_Awake: function 31 -/
def carousellaw03_Awake.f (k : Nat)  : Option (Bool) := (tagged_Close.f k 281474976710655 2 5 false 100 2048 (⟨#[120]⟩ : ByteArray)).bind fun bt187 => ((carousellaw02_Awake.f k).bind fun t189 => (if t189 = true then (if bt187.2 = 0 then (if (bt187.1.size : Int) = 19 then (if 12 ≤ 16 then (if 16 ≤ (bt187.1.size : Int) then (some ((bt187.1.extract 12 16).toList == ([129, 0, 160, 100] : List UInt8))) else (none)) else (none)) else (some false)) else (some false)) else (some false)))
theorem carousellaw03_Awake.mono : ∀ k, LeO (carousellaw03_Awake.f k ) (carousellaw03_Awake.f (k + 1) ) := by
  intro  k
  unfold carousellaw03_Awake.f
  repeat' first
      | (with_reducible exact carousellaw02_Awake.mono _)
      | (with_reducible exact tagged_Close.mono _ _ _ _ _ _ _ _)
      | (with_reducible exact LeO.refl _)
      | (with_reducible exact LeO.none _)
      | (with_reducible refine LeO.ite ?_ ?_)
      | (with_reducible refine LeO.bind ?_ (fun _ => ?_))
      | exact carousellaw02_Awake.mono _
      | exact tagged_Close.mono _ _ _ _ _ _ _ _
      | exact LeO.none _
      | refine LeO.ite ?_ ?_
      | refine LeO.bind ?_ (fun _ => ?_)
set_option maxHeartbeats 8000000 in
set_option maxRecDepth 100000 in
theorem carousellaw03_Awake.calls (k : Nat)  (r : Bool) (w : World) (h : carousellaw03_Awake.f k  = some r) :
    Calls Try.prog 31 #[] w fun e w' => e = .returned (.bool r) ∧ Below w.heap.size w w' := by
  have hu54 := Try.underlying54
  have HB := Aside0.mk (Below.refl w.heap.size w)
  have H : ((tagged_Close.f k 281474976710655 2 5 false 100 2048 (⟨#[120]⟩ : ByteArray)).bind fun bt187 => ((carousellaw02_Awake.f k).bind fun t189 => (if t189 = true then (if bt187.2 = 0 then (if (bt187.1.size : Int) = 19 then (if 12 ≤ 16 then (if 16 ≤ (bt187.1.size : Int) then (some ((bt187.1.extract 12 16).toList == ([129, 0, 160, 100] : List UInt8))) else (none)) else (none)) else (some false)) else (some false)) else (some false)))) = some r := h
  clear h
  replace H := Option.bind_eq_some_iff.mp H
  obtain ⟨⟨t187, t188⟩, A10, H⟩ := H
  replace H : ((carousellaw02_Awake.f k).bind fun t189 => (if t189 = true then (if t188 = 0 then (if (t187.size : Int) = 19 then (if 12 ≤ 16 then (if 16 ≤ (t187.size : Int) then (some ((t187.extract 12 16).toList == ([129, 0, 160, 100] : List UInt8))) else (none)) else (none)) else (some false)) else (some false)) else (some false))) = some r := H
  have A1 := Aside0.mk A10
  clear A10
  replace H := Option.bind_eq_some_iff.mp H
  obtain ⟨t189, A20, H⟩ := H
  replace H : (if t189 = true then (if t188 = 0 then (if (t187.size : Int) = 19 then (if 12 ≤ 16 then (if 16 ≤ (t187.size : Int) then (some ((t187.extract 12 16).toList == ([129, 0, 160, 100] : List UInt8))) else (none)) else (none)) else (some false)) else (some false)) else (some false)) = some r := H
  have A2 := Aside0.mk A20
  clear A20
  by_cases c3 : t189 = true
  · subst c3
    have H1 : (if t188 = 0 then (if (t187.size : Int) = 19 then (if 12 ≤ 16 then (if 16 ≤ (t187.size : Int) then (some ((t187.extract 12 16).toList == ([129, 0, 160, 100] : List UInt8))) else (none)) else (none)) else (some false)) else (some false)) = some r := by rw [if_pos rfl] at H; exact H
    clear H
    have H := H1
    clear H1
    by_cases c4 : t188 = 0
    · rw [if_pos c4] at H
      have c4b0 : (t188 == 0) = true := beq_iff_eq.mpr c4
      have c4b1 : (t188 != 0) = false := bne_eq_false_iff_eq.mpr c4
      clear c4
      by_cases c5 : (t187.size : Int) = 19
      · rw [if_pos c5] at H
        have c5b0 : ((t187.size : Int) == 19) = true := beq_iff_eq.mpr c5
        have c5b1 : ((t187.size : Int) != 19) = false := bne_eq_false_iff_eq.mpr c5
        clear c5
        by_cases c6 : 12 ≤ 16
        · rw [if_pos c6] at H
          have c6b0 := eq_true c6
          have c6b1 : decide (12 ≤ 16) = true := decide_eq_true c6
          clear c6
          by_cases c7 : 16 ≤ (t187.size : Int)
          · rw [if_pos c7] at H
            have c7b0 := eq_true c7
            have c7b1 : decide (16 ≤ (t187.size : Int)) = true := decide_eq_true c7
            clear c7
            obtain rfl := Option.some.inj H
            go_enter Try.func31, Try.ntmps31
            go_wp2_with (first | ((with_reducible refine gate_callee (f := 32) rfl ?_); refine goesL_ (some 5) rfl rfl Try.func32 (by kernel_rfl) rfl #[.agg #[.int .u64 281474976710655, .int .u64 2, .int .u8 5, .bool false, .int .u16 100, .int .u16 2048, .string (⟨#[120]⟩ : ByteArray)]] rfl (by (try simp only [List.map_toArray, List.map_cons, List.map_nil]); first | done | rfl | (simp only [List.length_drop, List.length_take]; rfl)) ?_; (with_reducible refine (tagged_Close.calls k 281474976710655 2 5 false 100 2048 (⟨#[120]⟩ : ByteArray) t187 t188 _ A1.out).mono ?_); rintro e w8 ⟨rfl, hb⟩; refine ⟨_, rfl, ?_⟩; have n0_ := Aside0.mk (below_step (by repeat (first | (with_reducible first | exact HB.out | apply below_alloc | apply pw_below_drewN | apply below_drew1) | exact HB.out)) hb); clear HB; have HB := n0_; clear n0_; (try clear hb); (try clear hb2); (try clear hk); (try clear hi)) | ((with_reducible refine gate_callee (f := 50) rfl ?_); refine goesL_ (some 8) rfl rfl Try.func50 (by kernel_rfl) rfl #[] rfl (by (try simp only [List.map_toArray, List.map_cons, List.map_nil]); first | done | rfl | (simp only [List.length_drop, List.length_take]; rfl)) ?_; (with_reducible refine (carousellaw02_Awake.calls k  true _ A2.out).mono ?_); rintro e w9 ⟨rfl, hb⟩; refine ⟨_, rfl, ?_⟩; have n0_ := Aside0.mk (below_step (by repeat (first | (with_reducible first | exact HB.out | apply below_alloc | apply pw_below_drewN | apply below_drew1) | exact HB.out)) hb); clear HB; have HB := n0_; clear n0_; (try clear hb); (try clear hb2); (try clear hk); (try clear hi)))
            go_ret
            exact ⟨by first | rfl | (simp [errW_none, errW_some] <;> rfl) | (simp [*, errW_none, errW_some] <;> rfl), by repeat (first | (with_reducible first | exact HB.out | apply below_alloc | apply pw_below_drewN | apply below_drew1) | exact HB.out)⟩
          · rw [if_neg c7] at H
            exact absurd H (by simp)
        · rw [if_neg c6] at H
          exact absurd H (by simp)
      · rw [if_neg c5] at H
        have c5b0 : ((t187.size : Int) == 19) = false := beq_eq_false_iff_ne.mpr c5
        have c5b1 : ((t187.size : Int) != 19) = true := bne_iff_ne.mpr c5
        obtain rfl := Option.some.inj H
        go_enter Try.func31, Try.ntmps31
        go_wp2_with (first | ((with_reducible refine gate_callee (f := 32) rfl ?_); refine goesL_ (some 5) rfl rfl Try.func32 (by kernel_rfl) rfl #[.agg #[.int .u64 281474976710655, .int .u64 2, .int .u8 5, .bool false, .int .u16 100, .int .u16 2048, .string (⟨#[120]⟩ : ByteArray)]] rfl (by (try simp only [List.map_toArray, List.map_cons, List.map_nil]); first | done | rfl | (simp only [List.length_drop, List.length_take]; rfl)) ?_; (with_reducible refine (tagged_Close.calls k 281474976710655 2 5 false 100 2048 (⟨#[120]⟩ : ByteArray) t187 t188 _ A1.out).mono ?_); rintro e w10 ⟨rfl, hb⟩; refine ⟨_, rfl, ?_⟩; have n0_ := Aside0.mk (below_step (by repeat (first | (with_reducible first | exact HB.out | apply below_alloc | apply pw_below_drewN | apply below_drew1) | exact HB.out)) hb); clear HB; have HB := n0_; clear n0_; (try clear hb); (try clear hb2); (try clear hk); (try clear hi)) | ((with_reducible refine gate_callee (f := 50) rfl ?_); refine goesL_ (some 8) rfl rfl Try.func50 (by kernel_rfl) rfl #[] rfl (by (try simp only [List.map_toArray, List.map_cons, List.map_nil]); first | done | rfl | (simp only [List.length_drop, List.length_take]; rfl)) ?_; (with_reducible refine (carousellaw02_Awake.calls k  true _ A2.out).mono ?_); rintro e w11 ⟨rfl, hb⟩; refine ⟨_, rfl, ?_⟩; have n0_ := Aside0.mk (below_step (by repeat (first | (with_reducible first | exact HB.out | apply below_alloc | apply pw_below_drewN | apply below_drew1) | exact HB.out)) hb); clear HB; have HB := n0_; clear n0_; (try clear hb); (try clear hb2); (try clear hk); (try clear hi)))
        go_ret
        exact ⟨by first | rfl | (simp [errW_none, errW_some] <;> rfl) | (simp [*, errW_none, errW_some] <;> rfl), by repeat (first | (with_reducible first | exact HB.out | apply below_alloc | apply pw_below_drewN | apply below_drew1) | exact HB.out)⟩
    · rw [if_neg c4] at H
      have c4b0 : (t188 == 0) = false := beq_eq_false_iff_ne.mpr c4
      have c4b1 : (t188 != 0) = true := bne_iff_ne.mpr c4
      obtain rfl := Option.some.inj H
      go_enter Try.func31, Try.ntmps31
      go_wp2_with (first | ((with_reducible refine gate_callee (f := 32) rfl ?_); refine goesL_ (some 5) rfl rfl Try.func32 (by kernel_rfl) rfl #[.agg #[.int .u64 281474976710655, .int .u64 2, .int .u8 5, .bool false, .int .u16 100, .int .u16 2048, .string (⟨#[120]⟩ : ByteArray)]] rfl (by (try simp only [List.map_toArray, List.map_cons, List.map_nil]); first | done | rfl | (simp only [List.length_drop, List.length_take]; rfl)) ?_; (with_reducible refine (tagged_Close.calls k 281474976710655 2 5 false 100 2048 (⟨#[120]⟩ : ByteArray) t187 t188 _ A1.out).mono ?_); rintro e w12 ⟨rfl, hb⟩; refine ⟨_, rfl, ?_⟩; have n0_ := Aside0.mk (below_step (by repeat (first | (with_reducible first | exact HB.out | apply below_alloc | apply pw_below_drewN | apply below_drew1) | exact HB.out)) hb); clear HB; have HB := n0_; clear n0_; (try clear hb); (try clear hb2); (try clear hk); (try clear hi)) | ((with_reducible refine gate_callee (f := 50) rfl ?_); refine goesL_ (some 8) rfl rfl Try.func50 (by kernel_rfl) rfl #[] rfl (by (try simp only [List.map_toArray, List.map_cons, List.map_nil]); first | done | rfl | (simp only [List.length_drop, List.length_take]; rfl)) ?_; (with_reducible refine (carousellaw02_Awake.calls k  true _ A2.out).mono ?_); rintro e w13 ⟨rfl, hb⟩; refine ⟨_, rfl, ?_⟩; have n0_ := Aside0.mk (below_step (by repeat (first | (with_reducible first | exact HB.out | apply below_alloc | apply pw_below_drewN | apply below_drew1) | exact HB.out)) hb); clear HB; have HB := n0_; clear n0_; (try clear hb); (try clear hb2); (try clear hk); (try clear hi)))
      go_ret
      exact ⟨by first | rfl | (simp [errW_none, errW_some] <;> rfl) | (simp [*, errW_none, errW_some] <;> rfl), by repeat (first | (with_reducible first | exact HB.out | apply below_alloc | apply pw_below_drewN | apply below_drew1) | exact HB.out)⟩
  · replace c3 := Bool.eq_false_iff.mpr c3
    subst c3
    have H1 : (some false) = some r := by rw [if_neg (show ¬ (false = true) by decide)] at H; exact H
    clear H
    have H := H1
    clear H1
    obtain rfl := Option.some.inj H
    go_enter Try.func31, Try.ntmps31
    go_wp2_with (first | ((with_reducible refine gate_callee (f := 32) rfl ?_); refine goesL_ (some 5) rfl rfl Try.func32 (by kernel_rfl) rfl #[.agg #[.int .u64 281474976710655, .int .u64 2, .int .u8 5, .bool false, .int .u16 100, .int .u16 2048, .string (⟨#[120]⟩ : ByteArray)]] rfl (by (try simp only [List.map_toArray, List.map_cons, List.map_nil]); first | done | rfl | (simp only [List.length_drop, List.length_take]; rfl)) ?_; (with_reducible refine (tagged_Close.calls k 281474976710655 2 5 false 100 2048 (⟨#[120]⟩ : ByteArray) t187 t188 _ A1.out).mono ?_); rintro e w14 ⟨rfl, hb⟩; refine ⟨_, rfl, ?_⟩; have n0_ := Aside0.mk (below_step (by repeat (first | (with_reducible first | exact HB.out | apply below_alloc | apply pw_below_drewN | apply below_drew1) | exact HB.out)) hb); clear HB; have HB := n0_; clear n0_; (try clear hb); (try clear hb2); (try clear hk); (try clear hi)) | ((with_reducible refine gate_callee (f := 50) rfl ?_); refine goesL_ (some 8) rfl rfl Try.func50 (by kernel_rfl) rfl #[] rfl (by (try simp only [List.map_toArray, List.map_cons, List.map_nil]); first | done | rfl | (simp only [List.length_drop, List.length_take]; rfl)) ?_; (with_reducible refine (carousellaw02_Awake.calls k  false _ A2.out).mono ?_); rintro e w15 ⟨rfl, hb⟩; refine ⟨_, rfl, ?_⟩; have n0_ := Aside0.mk (below_step (by repeat (first | (with_reducible first | exact HB.out | apply below_alloc | apply pw_below_drewN | apply below_drew1) | exact HB.out)) hb); clear HB; have HB := n0_; clear n0_; (try clear hb); (try clear hb2); (try clear hk); (try clear hi)))
    go_ret
    exact ⟨by first | rfl | (simp [errW_none, errW_some] <;> rfl) | (simp [*, errW_none, errW_some] <;> rfl), by repeat (first | (with_reducible first | exact HB.out | apply below_alloc | apply pw_below_drewN | apply below_drew1) | exact HB.out)⟩

/-! ### carouselref02_May: function 53 -/
def carouselref02_May.f (a0 : Int) : Option (Bool) := some (decide (a0 < 281474976710656))
set_option maxHeartbeats 8000000 in
set_option maxRecDepth 100000 in
theorem carouselref02_May.calls (a0 : Int) (r : Bool) (w : World) (h : carouselref02_May.f a0 = some r) :
    Calls Try.prog 53 #[.int .u64 a0] w fun e w' => e = .returned (.bool r) ∧ Drawn0 w w' := by
  have H : (some (decide (a0 < 281474976710656))) = some r := h
  clear h
  obtain rfl := Option.some.inj H
  go_enter Try.func53, Try.ntmps53
  go_wp2
  go_ret
  exact ⟨by first | rfl | (simp; done) | (simp [*]; done), by repeat (first | exact Drawn0.refl _ | apply Drawn0.step)⟩

/-! ### carouselref02_Group: function 54 -/
def carouselref02_Group.f (a0 : Int) : Option (Bool) := (carouselref02_May.f a0).bind fun t190 => (if t190 = true then (some ((Int.tmod (IntKind.u64.wrap (Int.tdiv a0 1099511627776)) 2) == 1)) else (some false))
set_option maxHeartbeats 8000000 in
set_option maxRecDepth 100000 in
theorem carouselref02_Group.calls (a0 : Int) (r : Bool) (w : World) (h : carouselref02_Group.f a0 = some r) :
    Calls Try.prog 54 #[.int .u64 a0] w fun e w' => e = .returned (.bool r) ∧ Drawn0 w w' := by
  have H : ((carouselref02_May.f a0).bind fun t190 => (if t190 = true then (some ((Int.tmod (IntKind.u64.wrap (Int.tdiv a0 1099511627776)) 2) == 1)) else (some false))) = some r := h
  clear h
  replace H := Option.bind_eq_some_iff.mp H
  obtain ⟨t190, A20, H⟩ := H
  replace H : (if t190 = true then (some ((Int.tmod (IntKind.u64.wrap (Int.tdiv a0 1099511627776)) 2) == 1)) else (some false)) = some r := H
  have A2 := Aside0.mk A20
  clear A20
  by_cases c3 : t190 = true
  · subst c3
    have H1 : (some ((Int.tmod (IntKind.u64.wrap (Int.tdiv a0 1099511627776)) 2) == 1)) = some r := by rw [if_pos rfl] at H; exact H
    clear H
    have H := H1
    clear H1
    obtain rfl := Option.some.inj H
    go_enter Try.func54, Try.ntmps54
    go_wp2_with (first | ((with_reducible refine gate_callee (f := 53) rfl ?_); refine goesL_ (some 4) rfl rfl Try.func53 (by kernel_rfl) rfl #[.int .u64 a0] rfl (by (try simp only [List.map_toArray, List.map_cons, List.map_nil]); first | done | rfl | (simp only [List.length_drop, List.length_take]; rfl)) ?_; (with_reducible refine (carouselref02_May.calls a0 true _ A2.out).mono ?_); rintro e w' ⟨rfl, ⟨nd, rfl⟩⟩; refine ⟨_, rfl, ?_⟩))
    go_ret
    exact ⟨by first | rfl | (simp; done) | (simp [*]; done), by repeat (first | exact Drawn0.refl _ | apply Drawn0.step)⟩
  · replace c3 := Bool.eq_false_iff.mpr c3
    subst c3
    have H1 : (some false) = some r := by rw [if_neg (show ¬ (false = true) by decide)] at H; exact H
    clear H
    have H := H1
    clear H1
    obtain rfl := Option.some.inj H
    go_enter Try.func54, Try.ntmps54
    go_wp2_with (first | ((with_reducible refine gate_callee (f := 53) rfl ?_); refine goesL_ (some 4) rfl rfl Try.func53 (by kernel_rfl) rfl #[.int .u64 a0] rfl (by (try simp only [List.map_toArray, List.map_cons, List.map_nil]); first | done | rfl | (simp only [List.length_drop, List.length_take]; rfl)) ?_; (with_reducible refine (carouselref02_May.calls a0 false _ A2.out).mono ?_); rintro e w' ⟨rfl, ⟨nd, rfl⟩⟩; refine ⟨_, rfl, ?_⟩))
    go_ret
    exact ⟨by first | rfl | (simp; done) | (simp [*]; done), by repeat (first | exact Drawn0.refl _ | apply Drawn0.step)⟩

end Go.Proofs.Ytmdaaphjndjakac.PAll
