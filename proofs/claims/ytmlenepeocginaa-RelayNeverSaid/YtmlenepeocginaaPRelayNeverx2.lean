-- Written by a program of this work, after the translation.
import Derived.Test.YtmlenepeocginaaPRelayNeverx0
import Derived.Test.YtmlenepeocginaaPRelayNeverx1
namespace Go.Proofs.Ytmlenepeocginaa.PRelayNever
open Go.RowKit Go.Proofs.YtmlenepeocginaaW.PrintWords Go.Proofs.YtmlenepeocginaaW.PrintLast Go.Proofs.YtmlenepeocginaaW.PrintMore
attribute [local go_sem] max2_int min2_int max_two min_two max_three min_three max_four min_four   -- for this text's walks alone
set_option linter.unusedVariables false
set_option linter.unusedSimpArgs false

/-! ### carousellaw02_Awake: function 20 -/
def carousellaw02_Awake.f (k : Nat)  : Option (Bool) := (mac_Parse.f k (⟨#[48, 49, 58, 49, 57, 58, 97, 55, 58, 48, 48, 58, 48, 48, 58, 48, 49]⟩ : ByteArray)).bind fun bt115 => ((carousellaw01_Awake.f).bind fun t117 => (if t117 = true then (if bt115.2 = 0 then ((mac_Addr_Group.f bt115.1).bind fun t118 => (if t118 = true then ((mac_Addr_Bytes.f bt115.1).bind fun t119 => (if t119.toList = ([1, 25, 167, 0, 0, 1] : List UInt8) then ((mac_Addr_Group.f 2).bind fun t120 => (some (!t120))) else (some false))) else (some false))) else (some false)) else (some false)))
theorem carousellaw02_Awake.mono : ∀ k, LeO (carousellaw02_Awake.f k ) (carousellaw02_Awake.f (k + 1) ) := by
  intro  k
  unfold carousellaw02_Awake.f
  repeat' first
      | (with_reducible exact mac_Parse.mono _ _)
      | (with_reducible exact LeO.refl _)
      | (with_reducible exact LeO.none _)
      | (with_reducible refine LeO.ite ?_ ?_)
      | (with_reducible refine LeO.bind ?_ (fun _ => ?_))
      | exact mac_Parse.mono _ _
      | exact LeO.none _
      | refine LeO.ite ?_ ?_
      | refine LeO.bind ?_ (fun _ => ?_)
set_option maxHeartbeats 8000000 in
set_option maxRecDepth 100000 in
theorem carousellaw02_Awake.calls (k : Nat)  (r : Bool) (w : World) (h : carousellaw02_Awake.f k  = some r) :
    Calls Try.prog 20 #[] w fun e w' => e = .returned (.bool r) ∧ Below w.heap.size w w' := by
  have hT : r = true := by
    obtain ⟨K_, hK_⟩ := (Ev.of carousellaw02_Awake.mono (k := 60) (by decide +kernel) : Ev (fun k => carousellaw02_Awake.f k) true)
    have h1_ := at_rounds carousellaw02_Awake.mono (Nat.le_max_left k K_) h
    exact (Option.some.inj ((hK_ _ (Nat.le_max_right k K_)).symm.trans h1_)).symm
  have HB := Aside0.mk (Below.refl w.heap.size w)
  have H : ((mac_Parse.f k (⟨#[48, 49, 58, 49, 57, 58, 97, 55, 58, 48, 48, 58, 48, 48, 58, 48, 49]⟩ : ByteArray)).bind fun bt115 => ((carousellaw01_Awake.f).bind fun t117 => (if t117 = true then (if bt115.2 = 0 then ((mac_Addr_Group.f bt115.1).bind fun t118 => (if t118 = true then ((mac_Addr_Bytes.f bt115.1).bind fun t119 => (if t119.toList = ([1, 25, 167, 0, 0, 1] : List UInt8) then ((mac_Addr_Group.f 2).bind fun t120 => (some (!t120))) else (some false))) else (some false))) else (some false)) else (some false)))) = some r := h
  clear h
  replace H := Option.bind_eq_some_iff.mp H
  obtain ⟨⟨t115, t116⟩, A10, H⟩ := H
  replace H : ((carousellaw01_Awake.f).bind fun t117 => (if t117 = true then (if t116 = 0 then ((mac_Addr_Group.f t115).bind fun t118 => (if t118 = true then ((mac_Addr_Bytes.f t115).bind fun t119 => (if t119.toList = ([1, 25, 167, 0, 0, 1] : List UInt8) then ((mac_Addr_Group.f 2).bind fun t120 => (some (!t120))) else (some false))) else (some false))) else (some false)) else (some false))) = some r := H
  have A1 := Aside0.mk A10
  clear A10
  replace H := Option.bind_eq_some_iff.mp H
  obtain ⟨t117, A20, H⟩ := H
  replace H : (if t117 = true then (if t116 = 0 then ((mac_Addr_Group.f t115).bind fun t118 => (if t118 = true then ((mac_Addr_Bytes.f t115).bind fun t119 => (if t119.toList = ([1, 25, 167, 0, 0, 1] : List UInt8) then ((mac_Addr_Group.f 2).bind fun t120 => (some (!t120))) else (some false))) else (some false))) else (some false)) else (some false)) = some r := H
  have A2 := Aside0.mk A20
  clear A20
  by_cases c3 : t117 = true
  · subst c3
    have H1 : (if t116 = 0 then ((mac_Addr_Group.f t115).bind fun t118 => (if t118 = true then ((mac_Addr_Bytes.f t115).bind fun t119 => (if t119.toList = ([1, 25, 167, 0, 0, 1] : List UInt8) then ((mac_Addr_Group.f 2).bind fun t120 => (some (!t120))) else (some false))) else (some false))) else (some false)) = some r := by rw [if_pos rfl] at H; exact H
    clear H
    have H := H1
    clear H1
    by_cases c4 : t116 = 0
    · rw [if_pos c4] at H
      have c4b0 : (t116 == 0) = true := beq_iff_eq.mpr c4
      have c4b1 : (t116 != 0) = false := bne_eq_false_iff_eq.mpr c4
      clear c4
      replace H := Option.bind_eq_some_iff.mp H
      obtain ⟨t118, A50, H⟩ := H
      replace H : (if t118 = true then ((mac_Addr_Bytes.f t115).bind fun t119 => (if t119.toList = ([1, 25, 167, 0, 0, 1] : List UInt8) then ((mac_Addr_Group.f 2).bind fun t120 => (some (!t120))) else (some false))) else (some false)) = some r := H
      have A5 := Aside0.mk A50
      clear A50
      by_cases c6 : t118 = true
      · subst c6
        have H1 : ((mac_Addr_Bytes.f t115).bind fun t119 => (if t119.toList = ([1, 25, 167, 0, 0, 1] : List UInt8) then ((mac_Addr_Group.f 2).bind fun t120 => (some (!t120))) else (some false))) = some r := by rw [if_pos rfl] at H; exact H
        clear H
        have H := H1
        clear H1
        replace H := Option.bind_eq_some_iff.mp H
        obtain ⟨t119, A70, H⟩ := H
        replace H : (if t119.toList = ([1, 25, 167, 0, 0, 1] : List UInt8) then ((mac_Addr_Group.f 2).bind fun t120 => (some (!t120))) else (some false)) = some r := H
        have A7 := Aside0.mk A70
        clear A70
        by_cases c8 : t119.toList = ([1, 25, 167, 0, 0, 1] : List UInt8)
        · rw [if_pos c8] at H
          have c8b0 : (t119.toList == ([1, 25, 167, 0, 0, 1] : List UInt8)) = true := beq_iff_eq.mpr c8
          have c8b1 : (t119.toList != ([1, 25, 167, 0, 0, 1] : List UInt8)) = false := bne_eq_false_iff_eq.mpr c8
          clear c8
          replace H := Option.bind_eq_some_iff.mp H
          obtain ⟨t120, A90, H⟩ := H
          replace H : (some (!t120)) = some r := H
          have A9 := Aside0.mk A90
          clear A90
          obtain rfl := Option.some.inj H
          go_enter Try.func20, Try.ntmps20
          go_wp2_with (first | ((with_reducible refine gate_callee (f := 43) rfl ?_); refine goesL_ (some 4) rfl rfl Try.func43 (by kernel_rfl) rfl #[.string (⟨#[48, 49, 58, 49, 57, 58, 97, 55, 58, 48, 48, 58, 48, 48, 58, 48, 49]⟩ : ByteArray)] rfl (by (try simp only [List.map_toArray, List.map_cons, List.map_nil]); first | done | rfl | (simp only [List.length_drop, List.length_take]; rfl)) ?_; (with_reducible refine (mac_Parse.calls k (⟨#[48, 49, 58, 49, 57, 58, 97, 55, 58, 48, 48, 58, 48, 48, 58, 48, 49]⟩ : ByteArray) t115 t116 _ A1.out).mono ?_); rintro e w' ⟨rfl, ⟨nd, rfl⟩⟩; refine ⟨_, rfl, ?_⟩) | ((with_reducible refine gate_callee (f := 44) rfl ?_); refine goesL_ (some 7) rfl rfl Try.func44 (by kernel_rfl) rfl #[] rfl (by (try simp only [List.map_toArray, List.map_cons, List.map_nil]); first | done | rfl | (simp only [List.length_drop, List.length_take]; rfl)) ?_; (with_reducible refine (carousellaw01_Awake.calls  true _ A2.out).mono ?_); rintro e w10 ⟨rfl, hb⟩; refine ⟨_, rfl, ?_⟩; have n0_ := Aside0.mk (below_step (by repeat (first | (with_reducible first | exact HB.out | apply below_alloc | apply pw_below_drewN | apply below_drew1) | exact HB.out)) hb); clear HB; have HB := n0_; clear n0_; (try clear hb); (try clear hb2); (try clear hk); (try clear hi)) | (go_at_call 19; (with_reducible refine (mac_Addr_Group.calls t115 true _ A5.out).mono ?_); rintro e w' ⟨rfl, ⟨nd, rfl⟩⟩) | (go_at_call 45; (with_reducible refine (mac_Addr_Bytes.calls t115 t119 _ A7.out).mono ?_); rintro e w11 ⟨rfl, hb⟩; have n0_ := Aside0.mk (below_step (by repeat (first | (with_reducible first | exact HB.out | apply below_alloc | apply pw_below_drewN | apply below_drew1) | exact HB.out)) hb); clear HB; have HB := n0_; clear n0_; (try clear hb); (try clear hb2); (try clear hk); (try clear hi)) | (go_at_call 19; (with_reducible refine (mac_Addr_Group.calls 2 t120 _ A9.out).mono ?_); rintro e w' ⟨rfl, ⟨nd, rfl⟩⟩))
          go_ret
          exact ⟨by first | rfl | (simp [errW_none, errW_some] <;> rfl) | (simp [*, errW_none, errW_some] <;> rfl), by repeat (first | (with_reducible first | exact HB.out | apply below_alloc | apply pw_below_drewN | apply below_drew1) | exact HB.out)⟩
        · rw [if_neg c8] at H
          have c8b0 : (t119.toList == ([1, 25, 167, 0, 0, 1] : List UInt8)) = false := beq_eq_false_iff_ne.mpr c8
          have c8b1 : (t119.toList != ([1, 25, 167, 0, 0, 1] : List UInt8)) = true := bne_iff_ne.mpr c8
          cases (Option.some.inj H).trans hT
      · replace c6 := Bool.eq_false_iff.mpr c6
        subst c6
        have H1 : (some false) = some r := by rw [if_neg (show ¬ (false = true) by decide)] at H; exact H
        clear H
        have H := H1
        clear H1
        cases (Option.some.inj H).trans hT
    · rw [if_neg c4] at H
      have c4b0 : (t116 == 0) = false := beq_eq_false_iff_ne.mpr c4
      have c4b1 : (t116 != 0) = true := bne_iff_ne.mpr c4
      cases (Option.some.inj H).trans hT
  · replace c3 := Bool.eq_false_iff.mpr c3
    subst c3
    have H1 : (some false) = some r := by rw [if_neg (show ¬ (false = true) by decide)] at H; exact H
    clear H
    have H := H1
    clear H1
    cases (Option.some.inj H).trans hT

-- NOT PRINTED: function 5 (carousellaw11_Awake)

/-! ### filter_ring: function 53 -/
def filter_ring.f (a0 : Int) : Option (Bool) := if a0 = 0 then (some true) else (some (a0 == 1))
set_option maxHeartbeats 8000000 in
set_option maxRecDepth 100000 in
theorem filter_ring.calls (a0 : Int) (r : Bool) (w : World) (h : filter_ring.f a0 = some r) :
    Calls Try.prog 53 #[.int .i64 a0] w fun e w' => e = .returned (.bool r) ∧ Drawn0 w w' := by
  have H : (if a0 = 0 then (some true) else (some (a0 == 1))) = some r := h
  clear h
  by_cases c2 : a0 = 0
  · rw [if_pos c2] at H
    have c2b0 : (a0 == 0) = true := beq_iff_eq.mpr c2
    have c2b1 : (a0 != 0) = false := bne_eq_false_iff_eq.mpr c2
    clear c2
    obtain rfl := Option.some.inj H
    go_enter Try.func53, Try.ntmps53
    go_wp2
    go_ret
    exact ⟨by first | rfl | (simp; done) | (simp [*]; done), by repeat (first | exact Drawn0.refl _ | apply Drawn0.step)⟩
  · rw [if_neg c2] at H
    have c2b0 : (a0 == 0) = false := beq_eq_false_iff_ne.mpr c2
    have c2b1 : (a0 != 0) = true := bne_iff_ne.mpr c2
    obtain rfl := Option.some.inj H
    go_enter Try.func53, Try.ntmps53
    go_wp2
    go_ret
    exact ⟨by first | rfl | (simp; done) | (simp [*]; done), by repeat (first | exact Drawn0.refl _ | apply Drawn0.step)⟩

/-! ### filter_Open: function 40 (given: its walk is in another text) -/

def filter_Open.f (a0_0 : Bool) (a0_1 : Bool) (a1 : Int) : Option (Bool) := some (if a1 = 2 then true else if a1 = 0 then !a0_0 else if a1 = 1 then !a0_1 else false)
set_option maxHeartbeats 4000000 in
set_option maxRecDepth 100000 in
theorem filter_Open.calls (a0_0 : Bool) (a0_1 : Bool) (a1 : Int) (r : Bool) (w : World) (h : filter_Open.f a0_0 a0_1 a1 = some r) :
    Calls Try.prog 40 #[.agg #[.bool a0_0, .bool a0_1], .int .i64 a1] w fun e w' => e = .returned (.bool r) ∧ Below w.heap.size w w' := by
  obtain rfl := Option.some.inj h
  clear h
  have hu22 := Try.underlying60
  by_cases c2 : a1 = 2
  · subst c2
    go_enter Try.func40, Try.ntmps40
    go_wp2
    exact bodyPost_ret (v := .bool true) (by simp [results, Try.results40, go_sem]) rfl ⟨rfl, (Below.refl _ _).alloc (Nat.le_refl _) _⟩
  by_cases c0 : a1 = 0
  · subst c0
    go_enter Try.func40, Try.ntmps40
    go_wp2_with (go_at_call 53; refine (filter_ring.calls 0 true _ rfl).mono ?_; rintro e' w1 ⟨rfl, hw⟩; have hBW := ((Below.refl w.heap.size w).alloc (Nat.le_refl _) _).trans (hw.below.mono (by simp)); obtain ⟨⟨n, rfl⟩⟩ := hw; have hB := blk_drewN (blk_new w (.cells #[.bool a0_0, .bool a0_1] 60)) n; have hz0 := (blk_cell hB 0).trans rfl; have hz1 := (blk_cell hB 1).trans rfl)
    exact bodyPost_ret (v := .bool (!a0_0)) (by simp [results, Try.results40, go_sem]) rfl ⟨by simp, hBW⟩
  by_cases c1 : a1 = 1
  · subst c1
    go_enter Try.func40, Try.ntmps40
    go_wp2_with (go_at_call 53; refine (filter_ring.calls 1 true _ rfl).mono ?_; rintro e' w1 ⟨rfl, hw⟩; have hBW := ((Below.refl w.heap.size w).alloc (Nat.le_refl _) _).trans (hw.below.mono (by simp)); obtain ⟨⟨n, rfl⟩⟩ := hw; have hB := blk_drewN (blk_new w (.cells #[.bool a0_0, .bool a0_1] 60)) n; have hz0 := (blk_cell hB 0).trans rfl; have hz1 := (blk_cell hB 1).trans rfl)
    exact bodyPost_ret (v := .bool (!a0_1)) (by simp [results, Try.results40, go_sem]) rfl ⟨by simp, hBW⟩
  · have e2 : (a1 == 2) = false := by simpa using c2
    go_enter Try.func40, Try.ntmps40
    go_wp2_with (go_at_call 53; refine (filter_ring.calls a1 false _ (by unfold filter_ring.f; rw [if_neg c0]; simp [c1])).mono ?_; rintro e' w1 ⟨rfl, hw⟩; have hBW := ((Below.refl w.heap.size w).alloc (Nat.le_refl _) _).trans (hw.below.mono (by simp)))
    exact bodyPost_ret (v := .bool false) (by simp [results, Try.results40, go_sem]) rfl ⟨by simp [c0, c1, c2], hBW⟩


/-! ### filter_Data: function 42 -/
def filter_Data.f (a0_0 : Bool) (a0_1 : Bool) (a1 : Int) (a2 : Int) : Option (Bool) := if a1 = a2 then (some false) else ((filter_Open.f a0_0 a0_1 a1).bind fun t122 => (if t122 = true then ((filter_Open.f a0_0 a0_1 a2).bind fun t123 => (some t123)) else (some false)))
set_option maxHeartbeats 8000000 in
set_option maxRecDepth 100000 in
theorem filter_Data.calls (a0_0 : Bool) (a0_1 : Bool) (a1 : Int) (a2 : Int) (r : Bool) (w : World) (h : filter_Data.f a0_0 a0_1 a1 a2 = some r) :
    Calls Try.prog 42 #[.agg #[.bool a0_0, .bool a0_1], .int .i64 a1, .int .i64 a2] w fun e w' => e = .returned (.bool r) ∧ Below w.heap.size w w' := by
  have hu60 := Try.underlying60
  have HB := Aside0.mk (Below.refl w.heap.size w)
  have H : (if a1 = a2 then (some false) else ((filter_Open.f a0_0 a0_1 a1).bind fun t122 => (if t122 = true then ((filter_Open.f a0_0 a0_1 a2).bind fun t123 => (some t123)) else (some false)))) = some r := h
  clear h
  by_cases c4 : a1 = a2
  · rw [if_pos c4] at H
    have c4b0 : (a1 == a2) = true := beq_iff_eq.mpr c4
    have c4b1 : (a1 != a2) = false := bne_eq_false_iff_eq.mpr c4
    clear c4
    obtain rfl := Option.some.inj H
    go_enter Try.func42, Try.ntmps42
    go_wp2_with (first | ((with_reducible refine gate_dst (N := 3) rfl ?_); refine box_event ?hg (N := 3) ?hd (cs := #[.bool a0_0, .bool a0_1]) (t := 60) ?hr ?_; (case hd => rfl); (case hg => rfl); (case hr => first | (go_simp; done) | (go_simp; rfl)); intro gb121 hg w5 hbox hb; have n0_ := Aside0.mk (below_step (by repeat (first | (with_reducible first | exact HB.out | apply below_alloc | apply pw_below_drewN | apply below_drew1) | exact HB.out)) hb); have n1_ := Aside0.mk (hbox); have n2_ := Aside0.mk ((by rw [hg]; exact (below_size (by repeat (first | (with_reducible first | exact HB.out | apply below_alloc | apply pw_below_drewN | apply below_drew1) | exact HB.out))) : w.heap.size ≤ gb121)); have n3_ := Aside0.mk ((by rw [hg]; exact (below_size (by repeat (first | (with_reducible first | exact HB.out | apply below_alloc | apply pw_below_drewN | apply below_drew1) | exact HB.out))) : w.heap.size ≤ gb121)); clear HB; have HB := n0_; have BK121 := n1_; have GW121 := n2_; have GE121 := n3_; clear n0_ n1_ n2_ n3_; clear hb hbox hg))
    go_ret
    exact ⟨by first | rfl | (simp [errW_none, errW_some] <;> rfl) | (simp [*, errW_none, errW_some] <;> rfl), by repeat (first | (with_reducible first | exact HB.out | apply below_alloc | apply pw_below_drewN | apply below_drew1 | refine below_set ?_ GE121.out) | exact HB.out)⟩
  · rw [if_neg c4] at H
    have c4b0 : (a1 == a2) = false := beq_eq_false_iff_ne.mpr c4
    have c4b1 : (a1 != a2) = true := bne_iff_ne.mpr c4
    replace H := Option.bind_eq_some_iff.mp H
    obtain ⟨t122, A60, H⟩ := H
    replace H : (if t122 = true then ((filter_Open.f a0_0 a0_1 a2).bind fun t123 => (some t123)) else (some false)) = some r := H
    have A6 := Aside0.mk A60
    clear A60
    by_cases c7 : t122 = true
    · subst c7
      have H1 : ((filter_Open.f a0_0 a0_1 a2).bind fun t123 => (some t123)) = some r := by rw [if_pos rfl] at H; exact H
      clear H
      have H := H1
      clear H1
      replace H := Option.bind_eq_some_iff.mp H
      obtain ⟨t123, A80, H⟩ := H
      replace H : (some t123) = some r := H
      have A8 := Aside0.mk A80
      clear A80
      obtain rfl := Option.some.inj H
      go_enter Try.func42, Try.ntmps42
      go_wp2_with (first | ((with_reducible refine gate_dst (N := 3) rfl ?_); refine box_event ?hg (N := 3) ?hd (cs := #[.bool a0_0, .bool a0_1]) (t := 60) ?hr ?_; (case hd => rfl); (case hg => rfl); (case hr => first | (go_simp; done) | (go_simp; rfl)); intro gb121 hg w9 hbox hb; have n0_ := Aside0.mk (below_step (by repeat (first | (with_reducible first | exact HB.out | apply below_alloc | apply pw_below_drewN | apply below_drew1) | exact HB.out)) hb); have n1_ := Aside0.mk (hbox); have n2_ := Aside0.mk ((by rw [hg]; exact (below_size (by repeat (first | (with_reducible first | exact HB.out | apply below_alloc | apply pw_below_drewN | apply below_drew1) | exact HB.out))) : w.heap.size ≤ gb121)); have n3_ := Aside0.mk ((by rw [hg]; exact (below_size (by repeat (first | (with_reducible first | exact HB.out | apply below_alloc | apply pw_below_drewN | apply below_drew1) | exact HB.out))) : w.heap.size ≤ gb121)); clear HB; have HB := n0_; have BK121 := n1_; have GW121 := n2_; have GE121 := n3_; clear n0_ n1_ n2_ n3_; clear hb hbox hg; have hcz10_0 : w9.cell? ⟨gb121, 0, none⟩ = some (.bool a0_0) := (blk_cell BK121.out 0).trans rfl; have hcz10_1 : w9.cell? ⟨gb121, 1, none⟩ = some (.bool a0_1) := (blk_cell BK121.out 1).trans rfl; have hfz10_0 := blk_frozen BK121.out 0; have hfz10_1 := blk_frozen BK121.out 1; have hsaz10_ : ∀ u, (w9.setCell ⟨gb121, 0, none⟩ u).cell? ⟨gb121, 1, none⟩ = some (.bool a0_1) := (fun u => Eq.trans (World.cell?_setCell_other _ _ _ _ (by intro he; cases he)) hcz10_1); have hsbz10_ : ∀ u v, ((w9.setCell ⟨gb121, 0, none⟩ u).setCell ⟨gb121, 1, none⟩ v).cell? ⟨gb121, 1, none⟩ = some v := (fun u v => World.cell?_setCell_same _ _ _ (hsaz10_ u))) | (go_at_call 40; (with_reducible refine (filter_Open.calls a0_0 a0_1 a1 true _ A6.out).mono ?_); rintro e w11 ⟨rfl, hb⟩; have n0_ := Aside0.mk (blk_below (g := gb121) (o := .cells #[.bool a0_0, .bool a0_1] 60 (0, 0)) (by (with_reducible repeat (first | refine blk_drewN ?_ _ | refine blk_drew ?_ | refine blk_alloc ?_ _)); exact BK121.out) hb); have n1_ := Aside0.mk (below_step (by repeat (first | (with_reducible first | exact HB.out | apply below_alloc | apply pw_below_drewN | apply below_drew1 | refine below_set ?_ GE121.out) | exact HB.out)) hb); clear BK121; clear HB; have BK121 := n0_; have HB := n1_; clear n0_ n1_; (try clear hb); (try clear hb2); (try clear hk); (try clear hi); have hcz12_0 : w11.cell? ⟨gb121, 0, none⟩ = some (.bool a0_0) := (blk_cell BK121.out 0).trans rfl; have hcz12_1 : w11.cell? ⟨gb121, 1, none⟩ = some (.bool a0_1) := (blk_cell BK121.out 1).trans rfl; have hfz12_0 := blk_frozen BK121.out 0; have hfz12_1 := blk_frozen BK121.out 1; have hsaz12_ : ∀ u, (w11.setCell ⟨gb121, 0, none⟩ u).cell? ⟨gb121, 1, none⟩ = some (.bool a0_1) := (fun u => Eq.trans (World.cell?_setCell_other _ _ _ _ (by intro he; cases he)) hcz12_1); have hsbz12_ : ∀ u v, ((w11.setCell ⟨gb121, 0, none⟩ u).setCell ⟨gb121, 1, none⟩ v).cell? ⟨gb121, 1, none⟩ = some v := (fun u v => World.cell?_setCell_same _ _ _ (hsaz12_ u))) | (go_at_call 40; (with_reducible refine (filter_Open.calls a0_0 a0_1 a2 t123 _ A8.out).mono ?_); rintro e w13 ⟨rfl, hb⟩; have n0_ := Aside0.mk (blk_below (g := gb121) (o := .cells #[.bool a0_0, .bool a0_1] 60 (0, 0)) (by (with_reducible repeat (first | refine blk_drewN ?_ _ | refine blk_drew ?_ | refine blk_alloc ?_ _)); exact BK121.out) hb); have n1_ := Aside0.mk (below_step (by repeat (first | (with_reducible first | exact HB.out | apply below_alloc | apply pw_below_drewN | apply below_drew1 | refine below_set ?_ GE121.out) | exact HB.out)) hb); clear BK121; clear HB; have BK121 := n0_; have HB := n1_; clear n0_ n1_; (try clear hb); (try clear hb2); (try clear hk); (try clear hi)))
      go_ret
      exact ⟨by first | rfl | (simp [errW_none, errW_some] <;> rfl) | (simp [*, errW_none, errW_some] <;> rfl), by repeat (first | (with_reducible first | exact HB.out | apply below_alloc | apply pw_below_drewN | apply below_drew1 | refine below_set ?_ GE121.out) | exact HB.out)⟩
    · replace c7 := Bool.eq_false_iff.mpr c7
      subst c7
      have H1 : (some false) = some r := by rw [if_neg (show ¬ (false = true) by decide)] at H; exact H
      clear H
      have H := H1
      clear H1
      obtain rfl := Option.some.inj H
      go_enter Try.func42, Try.ntmps42
      go_wp2_with (first | ((with_reducible refine gate_dst (N := 3) rfl ?_); refine box_event ?hg (N := 3) ?hd (cs := #[.bool a0_0, .bool a0_1]) (t := 60) ?hr ?_; (case hd => rfl); (case hg => rfl); (case hr => first | (go_simp; done) | (go_simp; rfl)); intro gb121 hg w14 hbox hb; have n0_ := Aside0.mk (below_step (by repeat (first | (with_reducible first | exact HB.out | apply below_alloc | apply pw_below_drewN | apply below_drew1) | exact HB.out)) hb); have n1_ := Aside0.mk (hbox); have n2_ := Aside0.mk ((by rw [hg]; exact (below_size (by repeat (first | (with_reducible first | exact HB.out | apply below_alloc | apply pw_below_drewN | apply below_drew1) | exact HB.out))) : w.heap.size ≤ gb121)); have n3_ := Aside0.mk ((by rw [hg]; exact (below_size (by repeat (first | (with_reducible first | exact HB.out | apply below_alloc | apply pw_below_drewN | apply below_drew1) | exact HB.out))) : w.heap.size ≤ gb121)); clear HB; have HB := n0_; have BK121 := n1_; have GW121 := n2_; have GE121 := n3_; clear n0_ n1_ n2_ n3_; clear hb hbox hg; have hcz15_0 : w14.cell? ⟨gb121, 0, none⟩ = some (.bool a0_0) := (blk_cell BK121.out 0).trans rfl; have hcz15_1 : w14.cell? ⟨gb121, 1, none⟩ = some (.bool a0_1) := (blk_cell BK121.out 1).trans rfl; have hfz15_0 := blk_frozen BK121.out 0; have hfz15_1 := blk_frozen BK121.out 1; have hsaz15_ : ∀ u, (w14.setCell ⟨gb121, 0, none⟩ u).cell? ⟨gb121, 1, none⟩ = some (.bool a0_1) := (fun u => Eq.trans (World.cell?_setCell_other _ _ _ _ (by intro he; cases he)) hcz15_1); have hsbz15_ : ∀ u v, ((w14.setCell ⟨gb121, 0, none⟩ u).setCell ⟨gb121, 1, none⟩ v).cell? ⟨gb121, 1, none⟩ = some v := (fun u v => World.cell?_setCell_same _ _ _ (hsaz15_ u))) | (go_at_call 40; (with_reducible refine (filter_Open.calls a0_0 a0_1 a1 false _ A6.out).mono ?_); rintro e w16 ⟨rfl, hb⟩; have n0_ := Aside0.mk (blk_below (g := gb121) (o := .cells #[.bool a0_0, .bool a0_1] 60 (0, 0)) (by (with_reducible repeat (first | refine blk_drewN ?_ _ | refine blk_drew ?_ | refine blk_alloc ?_ _)); exact BK121.out) hb); have n1_ := Aside0.mk (below_step (by repeat (first | (with_reducible first | exact HB.out | apply below_alloc | apply pw_below_drewN | apply below_drew1 | refine below_set ?_ GE121.out) | exact HB.out)) hb); clear BK121; clear HB; have BK121 := n0_; have HB := n1_; clear n0_ n1_; (try clear hb); (try clear hb2); (try clear hk); (try clear hi)))
      go_ret
      exact ⟨by first | rfl | (simp [errW_none, errW_some] <;> rfl) | (simp [*, errW_none, errW_some] <;> rfl), by repeat (first | (with_reducible first | exact HB.out | apply below_alloc | apply pw_below_drewN | apply below_drew1 | refine below_set ?_ GE121.out) | exact HB.out)⟩

/-! ### filter_Outs: function 41 -/
def filter_Outs.l0 : Nat → Int → List Int → Int → Bool → Bool → Option (List Int)
  | 0, _, _, _, _, _ => none
  | k + 1, x1, x5, x7, x125000, x125001 => if x7 < 3 then ((filter_Data.f x125000 x125001 x1 x7).bind fun t125 => (if t125 = true then (if x5.length < 17592186044416 then (filter_Outs.l0 k x1 (x5 ++ [x7]) (wrap64 (x7 + 1)) x125000 x125001) else (none)) else (filter_Outs.l0 k x1 x5 (wrap64 (x7 + 1)) x125000 x125001))) else (some x5)
def filter_Outs.f (k : Nat) (a0_0 : Bool) (a0_1 : Bool) (a1 : Int) : Option (List Int) := filter_Outs.l0 k a1 ([] : List Int) 0 a0_0 a0_1
theorem filter_Outs.mono_l : ∀ k, (∀ y0 y1 y2 y3 y4, LeO (filter_Outs.l0 k y0 y1 y2 y3 y4) (filter_Outs.l0 (k + 1) y0 y1 y2 y3 y4))
  | 0 => fun _ _ _ _ _ r h => by simp [filter_Outs.l0] at h
  | k + 1 => by
    have ih0 := filter_Outs.mono_l k
    · intro y0 y1 y2 y3 y4
      unfold filter_Outs.l0
      repeat' first
      | (with_reducible exact ih0 _ _ _ _ _)
      | (with_reducible exact LeO.refl _)
      | (with_reducible exact LeO.none _)
      | (with_reducible refine LeO.ite ?_ ?_)
      | (with_reducible refine LeO.bind ?_ (fun _ => ?_))
      | exact ih0 _ _ _ _ _
      | exact LeO.none _
      | refine LeO.ite ?_ ?_
      | refine LeO.bind ?_ (fun _ => ?_)
theorem filter_Outs.mono : ∀ a0 a1 a2 k, LeO (filter_Outs.f k a0 a1 a2) (filter_Outs.f (k + 1) a0 a1 a2) := by
  intro a0 a1 a2 k
  have ih0 := filter_Outs.mono_l k
  unfold filter_Outs.f
  repeat' first
      | (with_reducible exact ih0 _ _ _ _ _)
      | (with_reducible exact LeO.refl _)
      | (with_reducible exact LeO.none _)
      | (with_reducible refine LeO.ite ?_ ?_)
      | (with_reducible refine LeO.bind ?_ (fun _ => ?_))
      | exact ih0 _ _ _ _ _
      | exact LeO.none _
      | refine LeO.ite ?_ ?_
      | refine LeO.bind ?_ (fun _ => ?_)
set_option maxHeartbeats 8000000 in
set_option maxRecDepth 100000 in
theorem filter_Outs.calls (k : Nat) (a0_0 : Bool) (a0_1 : Bool) (a1 : Int) (r : List Int) (w : World) (h : filter_Outs.f k a0_0 a0_1 a1 = some r) :
    Calls Try.prog 41 #[.agg #[.bool a0_0, .bool a0_1], .int .i64 a1] w fun e w' => ∃ v0_ : Value, e = .returned (v0_) ∧ Kd.R (Kd.int .i64) 3 w' w.heap.size (fun _ => True) v0_ r ∧ Below w.heap.size w w' := by
  have hu60 := Try.underlying60
  have HB := Aside0.mk (Below.refl w.heap.size w)
  have H : (filter_Outs.l0 k a1 ([] : List Int) 0 a0_0 a0_1) = some r := h
  clear h
  have H' := Aside0.mk H
  clear H
  go_enter Try.func41, Try.ntmps41
  go_wp2_with (first | ((with_reducible refine gate_dst (N := 2) rfl ?_); refine box_event ?hg (N := 2) ?hd (cs := #[.bool a0_0, .bool a0_1]) (t := 60) ?hr ?_; (case hd => rfl); (case hg => rfl); (case hr => first | (go_simp; done) | (go_simp; rfl)); intro gb124 hg w3 hbox hb; have n0_ := Aside0.mk (below_step (by repeat (first | (with_reducible first | exact HB.out | apply below_alloc | apply pw_below_drewN | apply below_drew1) | exact HB.out)) hb); have n1_ := Aside0.mk (hbox); have n2_ := Aside0.mk ((by rw [hg]; exact (below_size (by repeat (first | (with_reducible first | exact HB.out | apply below_alloc | apply pw_below_drewN | apply below_drew1) | exact HB.out))) : w.heap.size ≤ gb124)); have n3_ := Aside0.mk ((by rw [hg]; exact (below_size (by repeat (first | (with_reducible first | exact HB.out | apply below_alloc | apply pw_below_drewN | apply below_drew1) | exact HB.out))) : w.heap.size ≤ gb124)); clear HB; have HB := n0_; have BK124 := n1_; have GW124 := n2_; have GE124 := n3_; clear n0_ n1_ n2_ n3_; clear hb hbox hg))
  go_loopg [5, 7] k (fun kq v5 v7 w' => ∃ (x5_1 : List Int) (x7_1 : Int), v7 = .int .i64 x7_1 ∧ Aside0 (filter_Outs.l0 kq a1 x5_1 x7_1 a0_0 a0_1 = some r) ∧ Aside0 (kq ≤ k) ∧ Aside0 (Kd.R (Kd.int .i64) 3 w' w.heap.size (fun _ => True) v5 x5_1) ∧ Aside0 (w'.heap[gb124]? = some (.cells #[.bool a0_0, .bool a0_1] 60 (0, 0))) ∧ Aside0 (Below w.heap.size w w'))
  case atStart => exact ⟨(([] : List Int)), (0), (by first | rfl | (simp; done) | (simp [*]; done)), H', ⟨Nat.le_refl _⟩, ⟨by first | exact Kd.R_nil _ _ _ _ _ | exact Kd.N_nil _ _ _ _ _ | exact Kd.V_nil _ _ _ _ _ | exact Kd.Q_nil _ _ _ _ _ | exact Kd.S_nil _ _ _ _ _⟩, ⟨by (with_reducible repeat (first | refine blk_drewN ?_ _ | refine blk_drew ?_ | refine blk_alloc ?_ _)); exact BK124.out⟩, ⟨by repeat (first | (with_reducible first | exact HB.out | apply below_alloc | apply pw_below_drewN | apply below_drew1 | refine below_set ?_ GE124.out) | exact HB.out)⟩⟩
  case round =>
    clear H'
    try clear p2
    obtain ⟨x5_1, x7_1, rfl, HA, HK1, HO_5, BK124, HB⟩ := hrel
    cases gk with
    | zero => exact absurd HA.out (by simp [filter_Outs.l0])
    | succ k1 =>
      have H := HA.out
      clear HA
      simp only [filter_Outs.l0] at H
      by_cases c4 : x7_1 < 3
      · rw [if_pos c4] at H
        have c4b0 : decide (x7_1 < 3) = true := decide_eq_true c4
        clear c4
        replace H := Option.bind_eq_some_iff.mp H
        obtain ⟨t125, A50, H⟩ := H
        replace H : (if t125 = true then (if x5_1.length < 17592186044416 then (filter_Outs.l0 k1 a1 (x5_1 ++ [x7_1]) (wrap64 (x7_1 + 1)) a0_0 a0_1) else (none)) else (filter_Outs.l0 k1 a1 x5_1 (wrap64 (x7_1 + 1)) a0_0 a0_1)) = some r := H
        have A5 := Aside0.mk A50
        clear A50
        by_cases c6 : t125 = true
        · subst c6
          have H1 : (if x5_1.length < 17592186044416 then (filter_Outs.l0 k1 a1 (x5_1 ++ [x7_1]) (wrap64 (x7_1 + 1)) a0_0 a0_1) else (none)) = some r := by rw [if_pos rfl] at H; exact H
          clear H
          have H := H1
          clear H1
          by_cases c7 : x5_1.length < 17592186044416
          · rw [if_pos c7] at H
            have LMc7 := Aside0.mk c7
            clear c7
            obtain ⟨y126, hy126⟩ : ∃ y_ : List Int, y_ = (x5_1 ++ [x7_1]) := ⟨_, rfl⟩
            replace H : (filter_Outs.l0 k1 a1 y126 (wrap64 (x7_1 + 1)) a0_0 a0_1) = some r := by first | (rw [hy126]; with_reducible exact H) | (have H2_ := (Option.bind_some _ _).symm.trans H; rw [hy126]; with_reducible exact H2_) | (have H2_ := (Option.bind_some _ _).symm.trans H; with_reducible exact H2_) | with_reducible exact H | (rw [hy126]; exact H) | exact H
            have Ny126 := Aside0.mk hy126
            clear hy126
            have H' := Aside0.mk H
            clear H
            have hcz8_0 : wr.cell? ⟨gb124, 0, none⟩ = some (.bool a0_0) := (blk_cell BK124.out 0).trans rfl
            have hcz8_1 : wr.cell? ⟨gb124, 1, none⟩ = some (.bool a0_1) := (blk_cell BK124.out 1).trans rfl
            have hfz8_0 := blk_frozen BK124.out 0
            have hfz8_1 := blk_frozen BK124.out 1
            have hsaz8_ : ∀ u, (wr.setCell ⟨gb124, 0, none⟩ u).cell? ⟨gb124, 1, none⟩ = some (.bool a0_1) := (fun u => Eq.trans (World.cell?_setCell_other _ _ _ _ (by intro he; cases he)) hcz8_1)
            have hsbz8_ : ∀ u v, ((wr.setCell ⟨gb124, 0, none⟩ u).setCell ⟨gb124, 1, none⟩ v).cell? ⟨gb124, 1, none⟩ = some v := (fun u v => World.cell?_setCell_same _ _ _ (hsaz8_ u))
            go_wp2_with (first | ((with_reducible refine gate_callee (f := 42) rfl ?_); refine goesL_ (some 13) rfl rfl Try.func42 (by kernel_rfl) rfl #[.agg #[.bool a0_0, .bool a0_1], .int .i64 a1, .int .i64 x7_1] rfl (by (try simp only [List.map_toArray, List.map_cons, List.map_nil]); first | done | rfl | (simp only [List.length_drop, List.length_take]; rfl)) ?_; (with_reducible refine (filter_Data.calls a0_0 a0_1 a1 x7_1 true _ A5.out).mono ?_); rintro e w9 ⟨rfl, hb⟩; refine ⟨_, rfl, ?_⟩; have n0_ := Aside0.mk (Kd.R_below (by (with_reducible repeat (first | apply Kd.R_alloc | apply Kd.R_drewN | apply Kd.R_drew)); exact HO_5.out) hb); have n1_ := Aside0.mk (blk_below (g := gb124) (o := .cells #[.bool a0_0, .bool a0_1] 60 (0, 0)) (by (with_reducible repeat (first | refine blk_drewN ?_ _ | refine blk_drew ?_ | refine blk_alloc ?_ _)); exact BK124.out) hb); have n2_ := Aside0.mk (below_step (by repeat (first | (with_reducible first | exact HB.out | apply below_alloc | apply pw_below_drewN | apply below_drew1 | refine below_set ?_ GE124.out) | exact HB.out)) hb); clear HO_5; clear BK124; clear HB; have HO_5 := n0_; have BK124 := n1_; have HB := n2_; clear n0_ n1_ n2_; (try clear hb); (try clear hb2); (try clear hk); (try clear hi)) | ((with_reducible refine gate_builtin (b := .append) (xs := #[.tmp 14, .tmp 16]) rfl ?_); at_builtin; refine Kd.R_append (Kd.int .i64) (w0 := w) w.heap.size rfl (.tmp 14) (.tmp 16) 57 3 (.int .i64 0) 8 rfl Try.underlying57 info3 rfl (by decide) (by omega) u5 x5_1 x7_1 [.int .i64 x7_1] (fun _ => True) (fun _ => False) rfl rfl ?aP (fun _ hk => hk.elim) ?aF ?aO ?aB ?aS ?aL ?_; (case aP => exact rfl); (case aB => exact (by repeat (first | (with_reducible first | exact HB.out | apply below_alloc | apply pw_below_drewN | apply below_drew1 | refine below_set ?_ GE124.out) | exact HB.out))); (case aF => exact (fun _ _ => trivial)); (case aO => exact (by (with_reducible repeat (first | apply Kd.R_alloc | apply Kd.R_drewN | apply Kd.R_drew)); exact HO_5.out)); (case aS => exact (below_size (by repeat (first | (with_reducible first | exact HB.out | apply below_alloc | apply pw_below_drewN | apply below_drew1 | refine below_set ?_ GE124.out) | exact HB.out)))); (case aL => have := LMc7.out; omega); intro v127 w10 ho hb hg hat; rw [← Ny126.out] at ho; have n0_ := Aside0.mk (blk_grown (g := gb124) (o := .cells #[.bool a0_0, .bool a0_1] 60 (0, 0)) (by (with_reducible repeat (first | refine blk_drewN ?_ _ | refine blk_drew ?_ | refine blk_alloc ?_ _)); exact BK124.out) hg (Kd.R_ne HO_5.out BK124.out (by decide))); have n1_ := Aside0.mk (hb); have n2_ := Aside0.mk (ho); clear BK124; clear HB; clear HO_5; have BK124 := n0_; have HB := n1_; have HO128 := n2_; clear n0_ n1_ n2_; clear ho hb hg hat))
            go_roundg k1
            case measure => have := HK1.out; omega
            case rel => exact ⟨(y126), (wrap64 (x7_1 + 1)), (by first | rfl | (simp; done) | (simp [*]; done)), H', ⟨by have := HK1.out; omega⟩, ⟨by (with_reducible repeat (first | apply Kd.R_alloc | apply Kd.R_drewN | apply Kd.R_drew)); exact HO128.out⟩, ⟨by (with_reducible repeat (first | refine blk_drewN ?_ _ | refine blk_drew ?_ | refine blk_alloc ?_ _)); exact BK124.out⟩, ⟨by repeat (first | (with_reducible first | exact HB.out | apply below_alloc | apply pw_below_drewN | apply below_drew1 | refine below_set ?_ GE124.out) | exact HB.out)⟩⟩
          · rw [if_neg c7] at H
            exact absurd H (by simp)
        · replace c6 := Bool.eq_false_iff.mpr c6
          subst c6
          have H1 : (filter_Outs.l0 k1 a1 x5_1 (wrap64 (x7_1 + 1)) a0_0 a0_1) = some r := by rw [if_neg (show ¬ (false = true) by decide)] at H; exact H
          clear H
          have H := H1
          clear H1
          have H' := Aside0.mk H
          clear H
          have hcz11_0 : wr.cell? ⟨gb124, 0, none⟩ = some (.bool a0_0) := (blk_cell BK124.out 0).trans rfl
          have hcz11_1 : wr.cell? ⟨gb124, 1, none⟩ = some (.bool a0_1) := (blk_cell BK124.out 1).trans rfl
          have hfz11_0 := blk_frozen BK124.out 0
          have hfz11_1 := blk_frozen BK124.out 1
          have hsaz11_ : ∀ u, (wr.setCell ⟨gb124, 0, none⟩ u).cell? ⟨gb124, 1, none⟩ = some (.bool a0_1) := (fun u => Eq.trans (World.cell?_setCell_other _ _ _ _ (by intro he; cases he)) hcz11_1)
          have hsbz11_ : ∀ u v, ((wr.setCell ⟨gb124, 0, none⟩ u).setCell ⟨gb124, 1, none⟩ v).cell? ⟨gb124, 1, none⟩ = some v := (fun u v => World.cell?_setCell_same _ _ _ (hsaz11_ u))
          go_wp2_with (first | ((with_reducible refine gate_callee (f := 42) rfl ?_); refine goesL_ (some 13) rfl rfl Try.func42 (by kernel_rfl) rfl #[.agg #[.bool a0_0, .bool a0_1], .int .i64 a1, .int .i64 x7_1] rfl (by (try simp only [List.map_toArray, List.map_cons, List.map_nil]); first | done | rfl | (simp only [List.length_drop, List.length_take]; rfl)) ?_; (with_reducible refine (filter_Data.calls a0_0 a0_1 a1 x7_1 false _ A5.out).mono ?_); rintro e w12 ⟨rfl, hb⟩; refine ⟨_, rfl, ?_⟩; have n0_ := Aside0.mk (Kd.R_below (by (with_reducible repeat (first | apply Kd.R_alloc | apply Kd.R_drewN | apply Kd.R_drew)); exact HO_5.out) hb); have n1_ := Aside0.mk (blk_below (g := gb124) (o := .cells #[.bool a0_0, .bool a0_1] 60 (0, 0)) (by (with_reducible repeat (first | refine blk_drewN ?_ _ | refine blk_drew ?_ | refine blk_alloc ?_ _)); exact BK124.out) hb); have n2_ := Aside0.mk (below_step (by repeat (first | (with_reducible first | exact HB.out | apply below_alloc | apply pw_below_drewN | apply below_drew1 | refine below_set ?_ GE124.out) | exact HB.out)) hb); clear HO_5; clear BK124; clear HB; have HO_5 := n0_; have BK124 := n1_; have HB := n2_; clear n0_ n1_ n2_; (try clear hb); (try clear hb2); (try clear hk); (try clear hi)))
          go_roundg k1
          case measure => have := HK1.out; omega
          case rel => exact ⟨(x5_1), (wrap64 (x7_1 + 1)), (by first | rfl | (simp; done) | (simp [*]; done)), H', ⟨by have := HK1.out; omega⟩, ⟨by (with_reducible repeat (first | apply Kd.R_alloc | apply Kd.R_drewN | apply Kd.R_drew)); exact HO_5.out⟩, ⟨by (with_reducible repeat (first | refine blk_drewN ?_ _ | refine blk_drew ?_ | refine blk_alloc ?_ _)); exact BK124.out⟩, ⟨by repeat (first | (with_reducible first | exact HB.out | apply below_alloc | apply pw_below_drewN | apply below_drew1 | refine below_set ?_ GE124.out) | exact HB.out)⟩⟩
      · rw [if_neg c4] at H
        have c4b0 : decide (x7_1 < 3) = false := decide_eq_false c4
        clear c4
        obtain rfl := Option.some.inj H
        go_wp2
        go_ret
        exact ⟨_, by first | rfl | (simp [errW_none, errW_some] <;> rfl) | (simp [*, errW_none, errW_some] <;> rfl), by (with_reducible repeat (first | apply Kd.R_alloc | apply Kd.R_drewN | apply Kd.R_drew)); exact HO_5.out, by repeat (first | (with_reducible first | exact HB.out | apply below_alloc | apply pw_below_drewN | apply below_drew1 | refine below_set ?_ GE124.out) | exact HB.out)⟩

-- NOT PRINTED: function 18 (relay_Go)

/-! ### tagged_vlan: function 74 -/
def tagged_vlan.f (a0 : Int) : Option (Bool) := if a0 ≥ 1 then (some (decide (a0 ≤ 4094))) else (some false)
set_option maxHeartbeats 8000000 in
set_option maxRecDepth 100000 in
theorem tagged_vlan.calls (a0 : Int) (r : Bool) (w : World) (h : tagged_vlan.f a0 = some r) :
    Calls Try.prog 74 #[.int .u16 a0] w fun e w' => e = .returned (.bool r) ∧ Drawn0 w w' := by
  have H : (if a0 ≥ 1 then (some (decide (a0 ≤ 4094))) else (some false)) = some r := h
  clear h
  by_cases c2 : a0 ≥ 1
  · rw [if_pos c2] at H
    have c2b0 : decide (1 ≤ a0) = true := decide_eq_true c2
    clear c2
    obtain rfl := Option.some.inj H
    go_enter Try.func74, Try.ntmps74
    go_wp2
    go_ret
    exact ⟨by first | rfl | (simp; done) | (simp [*]; done), by repeat (first | exact Drawn0.refl _ | apply Drawn0.step)⟩
  · rw [if_neg c2] at H
    have c2b0 : decide (1 ≤ a0) = false := decide_eq_false c2
    clear c2
    obtain rfl := Option.some.inj H
    go_enter Try.func74, Try.ntmps74
    go_wp2
    go_ret
    exact ⟨by first | rfl | (simp; done) | (simp [*]; done), by repeat (first | exact Drawn0.refl _ | apply Drawn0.step)⟩

/-! ### tagged_Frame_wrong: function 59 -/
mutual
def tagged_Frame_wrong.j0 : Nat → Bool → Int → Int → Int → Bool → Int → Int → ByteArray → Option (Int)
  | 0, _, _, _, _, _, _, _, _ => none
  | k + 1, x8, x130000, x130001, x130002, x130003, x130004, x130005, x130006 => if x8 = true then (some 3) else (if x130002 > 7 then (tagged_Frame_wrong.j1 k (decide (x130002 > 7)) x130000 x130001 x130002 x130003 x130004 x130005 x130006) else ((tagged_vlan.f x130004).bind fun t133 => (tagged_Frame_wrong.j1 k (!t133) x130000 x130001 x130002 x130003 x130004 x130005 x130006)))
def tagged_Frame_wrong.j1 : Nat → Bool → Int → Int → Int → Bool → Int → Int → ByteArray → Option (Int)
  | 0, _, _, _, _, _, _, _, _ => none
  | k + 1, x16, x130000, x130001, x130002, x130003, x130004, x130005, x130006 => if x16 = true then (some 4) else (if x130005 < 1536 then (some 6) else (if (x130006.size : Int) > 1582 then (some 2) else (some 0)))
end
def tagged_Frame_wrong.f (k : Nat) (a0_0 : Int) (a0_1 : Int) (a0_2 : Int) (a0_3 : Bool) (a0_4 : Int) (a0_5 : Int) (a0_6 : ByteArray) : Option (Int) := (mac_Addr_May.f a0_0).bind fun t130 => (if t130 = true then ((mac_Addr_May.f a0_1).bind fun t131 => (if t131 = true then ((mac_Addr_Group.f a0_1).bind fun t132 => (tagged_Frame_wrong.j0 k t132 a0_0 a0_1 a0_2 a0_3 a0_4 a0_5 a0_6)) else (tagged_Frame_wrong.j0 k (!t131) a0_0 a0_1 a0_2 a0_3 a0_4 a0_5 a0_6))) else (some 3))
theorem tagged_Frame_wrong.mono_l : ∀ k, (∀ y0 y1 y2 y3 y4 y5 y6 y7, LeO (tagged_Frame_wrong.j0 k y0 y1 y2 y3 y4 y5 y6 y7) (tagged_Frame_wrong.j0 (k + 1) y0 y1 y2 y3 y4 y5 y6 y7)) ∧ (∀ y0 y1 y2 y3 y4 y5 y6 y7, LeO (tagged_Frame_wrong.j1 k y0 y1 y2 y3 y4 y5 y6 y7) (tagged_Frame_wrong.j1 (k + 1) y0 y1 y2 y3 y4 y5 y6 y7))
  | 0 => ⟨fun _ _ _ _ _ _ _ _ r h => by simp [tagged_Frame_wrong.j0] at h, fun _ _ _ _ _ _ _ _ r h => by simp [tagged_Frame_wrong.j1] at h⟩
  | k + 1 => by
    obtain ⟨ih0, ih1⟩ := tagged_Frame_wrong.mono_l k
    refine ⟨?_, ?_⟩
    · intro y0 y1 y2 y3 y4 y5 y6 y7
      unfold tagged_Frame_wrong.j0
      repeat' first
      | (with_reducible exact ih0 _ _ _ _ _ _ _ _)
      | (with_reducible exact ih1 _ _ _ _ _ _ _ _)
      | (with_reducible exact LeO.refl _)
      | (with_reducible exact LeO.none _)
      | (with_reducible refine LeO.ite ?_ ?_)
      | (with_reducible refine LeO.bind ?_ (fun _ => ?_))
      | exact ih0 _ _ _ _ _ _ _ _
      | exact ih1 _ _ _ _ _ _ _ _
      | exact LeO.none _
      | refine LeO.ite ?_ ?_
      | refine LeO.bind ?_ (fun _ => ?_)
    · intro y0 y1 y2 y3 y4 y5 y6 y7
      unfold tagged_Frame_wrong.j1
      repeat' first
      | (with_reducible exact ih0 _ _ _ _ _ _ _ _)
      | (with_reducible exact ih1 _ _ _ _ _ _ _ _)
      | (with_reducible exact LeO.refl _)
      | (with_reducible exact LeO.none _)
      | (with_reducible refine LeO.ite ?_ ?_)
      | (with_reducible refine LeO.bind ?_ (fun _ => ?_))
      | exact ih0 _ _ _ _ _ _ _ _
      | exact ih1 _ _ _ _ _ _ _ _
      | exact LeO.none _
      | refine LeO.ite ?_ ?_
      | refine LeO.bind ?_ (fun _ => ?_)
theorem tagged_Frame_wrong.mono : ∀ a0 a1 a2 a3 a4 a5 a6 k, LeO (tagged_Frame_wrong.f k a0 a1 a2 a3 a4 a5 a6) (tagged_Frame_wrong.f (k + 1) a0 a1 a2 a3 a4 a5 a6) := by
  intro a0 a1 a2 a3 a4 a5 a6 k
  obtain ⟨ih0, ih1⟩ := tagged_Frame_wrong.mono_l k
  unfold tagged_Frame_wrong.f
  repeat' first
      | (with_reducible exact ih0 _ _ _ _ _ _ _ _)
      | (with_reducible exact ih1 _ _ _ _ _ _ _ _)
      | (with_reducible exact LeO.refl _)
      | (with_reducible exact LeO.none _)
      | (with_reducible refine LeO.ite ?_ ?_)
      | (with_reducible refine LeO.bind ?_ (fun _ => ?_))
      | exact ih0 _ _ _ _ _ _ _ _
      | exact ih1 _ _ _ _ _ _ _ _
      | exact LeO.none _
      | refine LeO.ite ?_ ?_
      | refine LeO.bind ?_ (fun _ => ?_)
set_option maxHeartbeats 8000000 in
set_option maxRecDepth 100000 in
theorem tagged_Frame_wrong.calls (k : Nat) (a0_0 : Int) (a0_1 : Int) (a0_2 : Int) (a0_3 : Bool) (a0_4 : Int) (a0_5 : Int) (a0_6 : ByteArray) (r : Int) (w : World) (h : tagged_Frame_wrong.f k a0_0 a0_1 a0_2 a0_3 a0_4 a0_5 a0_6 = some r) :
    Calls Try.prog 59 #[.agg #[.int .u64 a0_0, .int .u64 a0_1, .int .u8 a0_2, .bool a0_3, .int .u16 a0_4, .int .u16 a0_5, .string a0_6]] w fun e w' => e = .returned (.int .i64 r) ∧ Below w.heap.size w w' := by
  have hu54 := Try.underlying54
  have HB := Aside0.mk (Below.refl w.heap.size w)
  have H : ((mac_Addr_May.f a0_0).bind fun t130 => (if t130 = true then ((mac_Addr_May.f a0_1).bind fun t131 => (if t131 = true then ((mac_Addr_Group.f a0_1).bind fun t132 => (tagged_Frame_wrong.j0 k t132 a0_0 a0_1 a0_2 a0_3 a0_4 a0_5 a0_6)) else (tagged_Frame_wrong.j0 k (!t131) a0_0 a0_1 a0_2 a0_3 a0_4 a0_5 a0_6))) else (some 3))) = some r := h
  clear h
  replace H := Option.bind_eq_some_iff.mp H
  obtain ⟨t130, A20, H⟩ := H
  replace H : (if t130 = true then ((mac_Addr_May.f a0_1).bind fun t131 => (if t131 = true then ((mac_Addr_Group.f a0_1).bind fun t132 => (tagged_Frame_wrong.j0 k t132 a0_0 a0_1 a0_2 a0_3 a0_4 a0_5 a0_6)) else (tagged_Frame_wrong.j0 k (!t131) a0_0 a0_1 a0_2 a0_3 a0_4 a0_5 a0_6))) else (some 3)) = some r := H
  have A2 := Aside0.mk A20
  clear A20
  by_cases c3 : t130 = true
  · subst c3
    have H1 : ((mac_Addr_May.f a0_1).bind fun t131 => (if t131 = true then ((mac_Addr_Group.f a0_1).bind fun t132 => (tagged_Frame_wrong.j0 k t132 a0_0 a0_1 a0_2 a0_3 a0_4 a0_5 a0_6)) else (tagged_Frame_wrong.j0 k (!t131) a0_0 a0_1 a0_2 a0_3 a0_4 a0_5 a0_6))) = some r := by rw [if_pos rfl] at H; exact H
    clear H
    have H := H1
    clear H1
    replace H := Option.bind_eq_some_iff.mp H
    obtain ⟨t131, A40, H⟩ := H
    replace H : (if t131 = true then ((mac_Addr_Group.f a0_1).bind fun t132 => (tagged_Frame_wrong.j0 k t132 a0_0 a0_1 a0_2 a0_3 a0_4 a0_5 a0_6)) else (tagged_Frame_wrong.j0 k (!t131) a0_0 a0_1 a0_2 a0_3 a0_4 a0_5 a0_6)) = some r := H
    have A4 := Aside0.mk A40
    clear A40
    have HC5 := Aside0.mk H
    clear H
    go_enter Try.func59, Try.ntmps59
    go_upto_if 8 with (first | ((with_reducible refine gate_dst (N := 1) rfl ?_); refine box_event ?hg (N := 1) ?hd (cs := #[.int .u64 a0_0, .int .u64 a0_1, .int .u8 a0_2, .bool a0_3, .int .u16 a0_4, .int .u16 a0_5, .string a0_6]) (t := 54) ?hr ?_; (case hd => rfl); (case hg => rfl); (case hr => first | (go_simp; done) | (go_simp; rfl)); intro gb129 hg w6 hbox hb; have n0_ := Aside0.mk (below_step (by repeat (first | (with_reducible first | exact HB.out | apply below_alloc | apply pw_below_drewN | apply below_drew1) | exact HB.out)) hb); have n1_ := Aside0.mk (hbox); have n2_ := Aside0.mk ((by rw [hg]; exact (below_size (by repeat (first | (with_reducible first | exact HB.out | apply below_alloc | apply pw_below_drewN | apply below_drew1) | exact HB.out))) : w.heap.size ≤ gb129)); have n3_ := Aside0.mk ((by rw [hg]; exact (below_size (by repeat (first | (with_reducible first | exact HB.out | apply below_alloc | apply pw_below_drewN | apply below_drew1) | exact HB.out))) : w.heap.size ≤ gb129)); clear HB; have HB := n0_; have BK129 := n1_; have GW129 := n2_; have GE129 := n3_; clear n0_ n1_ n2_ n3_; clear hb hbox hg; have hcz7_0 : w6.cell? ⟨gb129, 0, none⟩ = some (.int .u64 a0_0) := (blk_cell BK129.out 0).trans rfl; have hcz7_1 : w6.cell? ⟨gb129, 1, none⟩ = some (.int .u64 a0_1) := (blk_cell BK129.out 1).trans rfl; have hcz7_2 : w6.cell? ⟨gb129, 2, none⟩ = some (.int .u8 a0_2) := (blk_cell BK129.out 2).trans rfl; have hcz7_3 : w6.cell? ⟨gb129, 3, none⟩ = some (.bool a0_3) := (blk_cell BK129.out 3).trans rfl; have hcz7_4 : w6.cell? ⟨gb129, 4, none⟩ = some (.int .u16 a0_4) := (blk_cell BK129.out 4).trans rfl; have hcz7_5 : w6.cell? ⟨gb129, 5, none⟩ = some (.int .u16 a0_5) := (blk_cell BK129.out 5).trans rfl; have hcz7_6 : w6.cell? ⟨gb129, 6, none⟩ = some (.string a0_6) := (blk_cell BK129.out 6).trans rfl; have hfz7_0 := blk_frozen BK129.out 0; have hfz7_1 := blk_frozen BK129.out 1; have hfz7_2 := blk_frozen BK129.out 2; have hfz7_3 := blk_frozen BK129.out 3; have hfz7_4 := blk_frozen BK129.out 4; have hfz7_5 := blk_frozen BK129.out 5; have hfz7_6 := blk_frozen BK129.out 6) | ((with_reducible refine gate_callee (f := 27) rfl ?_); refine goesL_ (some 6) rfl rfl Try.func27 (by kernel_rfl) rfl #[.int .u64 a0_0] rfl (by (try simp only [List.map_toArray, List.map_cons, List.map_nil]); first | done | rfl | (simp only [List.length_drop, List.length_take]; rfl)) ?_; (with_reducible refine (mac_Addr_May.calls a0_0 true _ A2.out).mono ?_); rintro e w' ⟨rfl, ⟨nd, rfl⟩⟩; refine ⟨_, rfl, ?_⟩) | ((with_reducible refine gate_callee (f := 27) rfl ?_); refine goesL_ (some 11) rfl rfl Try.func27 (by kernel_rfl) rfl #[.int .u64 a0_1] rfl (by (try simp only [List.map_toArray, List.map_cons, List.map_nil]); first | done | rfl | (simp only [List.length_drop, List.length_take]; rfl)) ?_; (with_reducible refine (mac_Addr_May.calls a0_1 t131 _ A4.out).mono ?_); rintro e w' ⟨rfl, ⟨nd, rfl⟩⟩; refine ⟨_, rfl, ?_⟩))
    (try simp only [Act.put, List.setIfInBounds_toArray, List.set_cons_zero, List.set_cons_succ])
    go_cut [8] (fun v8 wc => ∃ (kq : Nat) (x8_4 : Bool), v8 = .bool x8_4 ∧ Aside0 (tagged_Frame_wrong.j0 kq x8_4 a0_0 a0_1 a0_2 a0_3 a0_4 a0_5 a0_6 = some r) ∧ Aside0 (kq ≤ k) ∧ Aside0 (wc.heap[gb129]? = some (.cells #[.int .u64 a0_0, .int .u64 a0_1, .int .u8 a0_2, .bool a0_3, .int .u16 a0_4, .int .u16 a0_5, .string a0_6] 54 (0, 0))) ∧ Aside0 (Below w.heap.size w wc))
    case first =>
      have H := HC5.out
      clear HC5
      by_cases c8 : t131 = true
      · subst c8
        have H1 : ((mac_Addr_Group.f a0_1).bind fun t132 => (tagged_Frame_wrong.j0 k t132 a0_0 a0_1 a0_2 a0_3 a0_4 a0_5 a0_6)) = some r := by rw [if_pos rfl] at H; exact H
        clear H
        have H := H1
        clear H1
        replace H := Option.bind_eq_some_iff.mp H
        obtain ⟨t132, A90, H⟩ := H
        replace H : (tagged_Frame_wrong.j0 k t132 a0_0 a0_1 a0_2 a0_3 a0_4 a0_5 a0_6) = some r := H
        have A9 := Aside0.mk A90
        clear A90
        have H' := Aside0.mk H
        clear H
        have hcz10_0 : w6.cell? ⟨gb129, 0, none⟩ = some (.int .u64 a0_0) := (blk_cell BK129.out 0).trans rfl
        have hcz10_1 : w6.cell? ⟨gb129, 1, none⟩ = some (.int .u64 a0_1) := (blk_cell BK129.out 1).trans rfl
        have hcz10_2 : w6.cell? ⟨gb129, 2, none⟩ = some (.int .u8 a0_2) := (blk_cell BK129.out 2).trans rfl
        have hcz10_3 : w6.cell? ⟨gb129, 3, none⟩ = some (.bool a0_3) := (blk_cell BK129.out 3).trans rfl
        have hcz10_4 : w6.cell? ⟨gb129, 4, none⟩ = some (.int .u16 a0_4) := (blk_cell BK129.out 4).trans rfl
        have hcz10_5 : w6.cell? ⟨gb129, 5, none⟩ = some (.int .u16 a0_5) := (blk_cell BK129.out 5).trans rfl
        have hcz10_6 : w6.cell? ⟨gb129, 6, none⟩ = some (.string a0_6) := (blk_cell BK129.out 6).trans rfl
        have hfz10_0 := blk_frozen BK129.out 0
        have hfz10_1 := blk_frozen BK129.out 1
        have hfz10_2 := blk_frozen BK129.out 2
        have hfz10_3 := blk_frozen BK129.out 3
        have hfz10_4 := blk_frozen BK129.out 4
        have hfz10_5 := blk_frozen BK129.out 5
        have hfz10_6 := blk_frozen BK129.out 6
        go_wp2_with (first | ((with_reducible refine gate_callee (f := 19) rfl ?_); refine goesL_ (some 15) rfl rfl Try.func19 (by kernel_rfl) rfl #[.int .u64 a0_1] rfl (by (try simp only [List.map_toArray, List.map_cons, List.map_nil]); first | done | rfl | (simp only [List.length_drop, List.length_take]; rfl)) ?_; (with_reducible refine (mac_Addr_Group.calls a0_1 t132 _ A9.out).mono ?_); rintro e w' ⟨rfl, ⟨nd, rfl⟩⟩; refine ⟨_, rfl, ?_⟩))
        go_meet
        case rel => exact ⟨_, (t132), (by first | rfl | (simp; done) | (simp [*]; done)), H', ⟨by first | omega | exact Nat.le_refl _⟩, ⟨by (with_reducible repeat (first | refine blk_drewN ?_ _ | refine blk_drew ?_ | refine blk_alloc ?_ _)); exact BK129.out⟩, ⟨by repeat (first | (with_reducible first | exact HB.out | apply below_alloc | apply pw_below_drewN | apply below_drew1 | refine below_set ?_ GE129.out) | exact HB.out)⟩⟩
      · replace c8 := Bool.eq_false_iff.mpr c8
        subst c8
        have H1 : (tagged_Frame_wrong.j0 k (!false) a0_0 a0_1 a0_2 a0_3 a0_4 a0_5 a0_6) = some r := by rw [if_neg (show ¬ (false = true) by decide)] at H; exact H
        clear H
        have H := H1
        clear H1
        have H' := Aside0.mk H
        clear H
        go_wp2
        go_meet
        case rel => exact ⟨_, (!false), (by first | rfl | (simp; done) | (simp [*]; done)), H', ⟨by first | omega | exact Nat.le_refl _⟩, ⟨by (with_reducible repeat (first | refine blk_drewN ?_ _ | refine blk_drew ?_ | refine blk_alloc ?_ _)); exact BK129.out⟩, ⟨by repeat (first | (with_reducible first | exact HB.out | apply below_alloc | apply pw_below_drewN | apply below_drew1 | refine below_set ?_ GE129.out) | exact HB.out)⟩⟩
    case rest =>
      clear HC5
      try clear c1
      try clear c2
      try clear p2
      try clear c3
      try clear c5
      try clear c8
      try clear hcz10_0
      try clear hcz10_1
      try clear hcz10_2
      try clear hcz10_3
      try clear hcz10_4
      try clear hcz10_5
      try clear hcz10_6
      try clear hcz7_0
      try clear hcz7_1
      try clear hcz7_2
      try clear hcz7_3
      try clear hcz7_4
      try clear hcz7_5
      try clear hcz7_6
      try clear hfz10_0
      try clear hfz10_1
      try clear hfz10_2
      try clear hfz10_3
      try clear hfz10_4
      try clear hfz10_5
      try clear hfz10_6
      try clear hfz7_0
      try clear hfz7_1
      try clear hfz7_2
      try clear hfz7_3
      try clear hfz7_4
      try clear hfz7_5
      try clear hfz7_6
      obtain ⟨kq, x8_4, rfl, HA, HJ4, BK129, HB⟩ := hcut
      cases kq with
      | zero => exact absurd HA.out (by simp [tagged_Frame_wrong.j0])
      | succ kj4 =>
        have H := HA.out
        clear HA
        simp only [tagged_Frame_wrong.j0] at H
        by_cases c11 : x8_4 = true
        · subst c11
          have H1 : (some 3) = some r := by rw [if_pos rfl] at H; exact H
          clear H
          have H := H1
          clear H1
          obtain rfl := Option.some.inj H
          go_wp2
          go_ret
          exact ⟨by first | rfl | (simp [errW_none, errW_some] <;> rfl) | (simp [*, errW_none, errW_some] <;> rfl), by repeat (first | (with_reducible first | exact HB.out | apply below_alloc | apply pw_below_drewN | apply below_drew1 | refine below_set ?_ GE129.out) | exact HB.out)⟩
        · replace c11 := Bool.eq_false_iff.mpr c11
          subst c11
          have H1 : (if a0_2 > 7 then (tagged_Frame_wrong.j1 kj4 (decide (a0_2 > 7)) a0_0 a0_1 a0_2 a0_3 a0_4 a0_5 a0_6) else ((tagged_vlan.f a0_4).bind fun t133 => (tagged_Frame_wrong.j1 kj4 (!t133) a0_0 a0_1 a0_2 a0_3 a0_4 a0_5 a0_6))) = some r := by rw [if_neg (show ¬ (false = true) by decide)] at H; exact H
          clear H
          have H := H1
          clear H1
          have HC12 := Aside0.mk H
          clear H
          have hcz13_0 : wc.cell? ⟨gb129, 0, none⟩ = some (.int .u64 a0_0) := (blk_cell BK129.out 0).trans rfl
          have hcz13_1 : wc.cell? ⟨gb129, 1, none⟩ = some (.int .u64 a0_1) := (blk_cell BK129.out 1).trans rfl
          have hcz13_2 : wc.cell? ⟨gb129, 2, none⟩ = some (.int .u8 a0_2) := (blk_cell BK129.out 2).trans rfl
          have hcz13_3 : wc.cell? ⟨gb129, 3, none⟩ = some (.bool a0_3) := (blk_cell BK129.out 3).trans rfl
          have hcz13_4 : wc.cell? ⟨gb129, 4, none⟩ = some (.int .u16 a0_4) := (blk_cell BK129.out 4).trans rfl
          have hcz13_5 : wc.cell? ⟨gb129, 5, none⟩ = some (.int .u16 a0_5) := (blk_cell BK129.out 5).trans rfl
          have hcz13_6 : wc.cell? ⟨gb129, 6, none⟩ = some (.string a0_6) := (blk_cell BK129.out 6).trans rfl
          have hfz13_0 := blk_frozen BK129.out 0
          have hfz13_1 := blk_frozen BK129.out 1
          have hfz13_2 := blk_frozen BK129.out 2
          have hfz13_3 := blk_frozen BK129.out 3
          have hfz13_4 := blk_frozen BK129.out 4
          have hfz13_5 := blk_frozen BK129.out 5
          have hfz13_6 := blk_frozen BK129.out 6
          go_upto_if 16 with (fail)
          go_cut [16] (fun v16 wc => ∃ (kq : Nat) (x16_11 : Bool), v16 = .bool x16_11 ∧ Aside0 (tagged_Frame_wrong.j1 kq x16_11 a0_0 a0_1 a0_2 a0_3 a0_4 a0_5 a0_6 = some r) ∧ Aside0 (kq ≤ kj4) ∧ Aside0 (wc.heap[gb129]? = some (.cells #[.int .u64 a0_0, .int .u64 a0_1, .int .u8 a0_2, .bool a0_3, .int .u16 a0_4, .int .u16 a0_5, .string a0_6] 54 (0, 0))) ∧ Aside0 (Below w.heap.size w wc))
          case first =>
            have H := HC12.out
            clear HC12
            by_cases c14 : a0_2 > 7
            · rw [if_pos c14] at H
              have c14b0 : decide (7 < a0_2) = true := decide_eq_true c14
              clear c14
              (first | rw [c14b0] | (simp only [i64_w, i32_w]; rw [c14b0]) | skip)
              have H' := Aside0.mk H
              clear H
              go_wp2
              go_meet
              case rel => exact ⟨_, (decide (a0_2 > 7)), (by first | rfl | (simp; done) | (simp [*]; done)), H', ⟨by have := HJ4.out; first | omega | exact Nat.le_refl _⟩, ⟨by (with_reducible repeat (first | refine blk_drewN ?_ _ | refine blk_drew ?_ | refine blk_alloc ?_ _)); exact BK129.out⟩, ⟨by repeat (first | (with_reducible first | exact HB.out | apply below_alloc | apply pw_below_drewN | apply below_drew1 | refine below_set ?_ GE129.out) | exact HB.out)⟩⟩
            · rw [if_neg c14] at H
              have c14b0 : decide (7 < a0_2) = false := decide_eq_false c14
              clear c14
              (first | rw [c14b0] | (simp only [i64_w, i32_w]; rw [c14b0]) | skip)
              replace H := Option.bind_eq_some_iff.mp H
              obtain ⟨t133, A150, H⟩ := H
              replace H : (tagged_Frame_wrong.j1 kj4 (!t133) a0_0 a0_1 a0_2 a0_3 a0_4 a0_5 a0_6) = some r := H
              have A15 := Aside0.mk A150
              clear A150
              have H' := Aside0.mk H
              clear H
              have hcz16_0 : wc.cell? ⟨gb129, 0, none⟩ = some (.int .u64 a0_0) := (blk_cell BK129.out 0).trans rfl
              have hcz16_1 : wc.cell? ⟨gb129, 1, none⟩ = some (.int .u64 a0_1) := (blk_cell BK129.out 1).trans rfl
              have hcz16_2 : wc.cell? ⟨gb129, 2, none⟩ = some (.int .u8 a0_2) := (blk_cell BK129.out 2).trans rfl
              have hcz16_3 : wc.cell? ⟨gb129, 3, none⟩ = some (.bool a0_3) := (blk_cell BK129.out 3).trans rfl
              have hcz16_4 : wc.cell? ⟨gb129, 4, none⟩ = some (.int .u16 a0_4) := (blk_cell BK129.out 4).trans rfl
              have hcz16_5 : wc.cell? ⟨gb129, 5, none⟩ = some (.int .u16 a0_5) := (blk_cell BK129.out 5).trans rfl
              have hcz16_6 : wc.cell? ⟨gb129, 6, none⟩ = some (.string a0_6) := (blk_cell BK129.out 6).trans rfl
              have hfz16_0 := blk_frozen BK129.out 0
              have hfz16_1 := blk_frozen BK129.out 1
              have hfz16_2 := blk_frozen BK129.out 2
              have hfz16_3 := blk_frozen BK129.out 3
              have hfz16_4 := blk_frozen BK129.out 4
              have hfz16_5 := blk_frozen BK129.out 5
              have hfz16_6 := blk_frozen BK129.out 6
              go_wp2_with (first | ((with_reducible refine gate_callee (f := 74) rfl ?_); refine goesL_ (some 22) rfl rfl Try.func74 (by kernel_rfl) rfl #[.int .u16 a0_4] rfl (by (try simp only [List.map_toArray, List.map_cons, List.map_nil]); first | done | rfl | (simp only [List.length_drop, List.length_take]; rfl)) ?_; (with_reducible refine (tagged_vlan.calls a0_4 t133 _ A15.out).mono ?_); rintro e w' ⟨rfl, ⟨nd, rfl⟩⟩; refine ⟨_, rfl, ?_⟩))
              go_meet
              case rel => exact ⟨_, (!t133), (by first | rfl | (simp; done) | (simp [*]; done)), H', ⟨by have := HJ4.out; first | omega | exact Nat.le_refl _⟩, ⟨by (with_reducible repeat (first | refine blk_drewN ?_ _ | refine blk_drew ?_ | refine blk_alloc ?_ _)); exact BK129.out⟩, ⟨by repeat (first | (with_reducible first | exact HB.out | apply below_alloc | apply pw_below_drewN | apply below_drew1 | refine below_set ?_ GE129.out) | exact HB.out)⟩⟩
          case rest =>
            clear HC12
            try clear c1
            try clear c2
            try clear p2
            try clear c3
            try clear c5
            try clear c7
            try clear c8
            try clear c11
            try clear c14
            try clear c14b0
            try clear hcz10_0
            try clear hcz10_1
            try clear hcz10_2
            try clear hcz10_3
            try clear hcz10_4
            try clear hcz10_5
            try clear hcz10_6
            try clear hcz13_0
            try clear hcz13_1
            try clear hcz13_2
            try clear hcz13_3
            try clear hcz13_4
            try clear hcz13_5
            try clear hcz13_6
            try clear hcz16_0
            try clear hcz16_1
            try clear hcz16_2
            try clear hcz16_3
            try clear hcz16_4
            try clear hcz16_5
            try clear hcz16_6
            try clear hcz7_0
            try clear hcz7_1
            try clear hcz7_2
            try clear hcz7_3
            try clear hcz7_4
            try clear hcz7_5
            try clear hcz7_6
            try clear hfz10_0
            try clear hfz10_1
            try clear hfz10_2
            try clear hfz10_3
            try clear hfz10_4
            try clear hfz10_5
            try clear hfz10_6
            try clear hfz13_0
            try clear hfz13_1
            try clear hfz13_2
            try clear hfz13_3
            try clear hfz13_4
            try clear hfz13_5
            try clear hfz13_6
            try clear hfz16_0
            try clear hfz16_1
            try clear hfz16_2
            try clear hfz16_3
            try clear hfz16_4
            try clear hfz16_5
            try clear hfz16_6
            try clear hfz7_0
            try clear hfz7_1
            try clear hfz7_2
            try clear hfz7_3
            try clear hfz7_4
            try clear hfz7_5
            try clear hfz7_6
            try clear p2
            obtain ⟨kq, x16_11, rfl, HA, HJ11, BK129, HB⟩ := hcut
            cases kq with
            | zero => exact absurd HA.out (by simp [tagged_Frame_wrong.j1])
            | succ kj11 =>
              have H := HA.out
              clear HA
              simp only [tagged_Frame_wrong.j1] at H
              by_cases c17 : x16_11 = true
              · subst c17
                have H1 : (some 4) = some r := by rw [if_pos rfl] at H; exact H
                clear H
                have H := H1
                clear H1
                obtain rfl := Option.some.inj H
                go_wp2
                go_ret
                exact ⟨by first | rfl | (simp [errW_none, errW_some] <;> rfl) | (simp [*, errW_none, errW_some] <;> rfl), by repeat (first | (with_reducible first | exact HB.out | apply below_alloc | apply pw_below_drewN | apply below_drew1 | refine below_set ?_ GE129.out) | exact HB.out)⟩
              · replace c17 := Bool.eq_false_iff.mpr c17
                subst c17
                have H1 : (if a0_5 < 1536 then (some 6) else (if (a0_6.size : Int) > 1582 then (some 2) else (some 0))) = some r := by rw [if_neg (show ¬ (false = true) by decide)] at H; exact H
                clear H
                have H := H1
                clear H1
                by_cases c18 : a0_5 < 1536
                · rw [if_pos c18] at H
                  have c18b0 : decide (a0_5 < 1536) = true := decide_eq_true c18
                  clear c18
                  obtain rfl := Option.some.inj H
                  have hcz19_0 : wc.cell? ⟨gb129, 0, none⟩ = some (.int .u64 a0_0) := (blk_cell BK129.out 0).trans rfl
                  have hcz19_1 : wc.cell? ⟨gb129, 1, none⟩ = some (.int .u64 a0_1) := (blk_cell BK129.out 1).trans rfl
                  have hcz19_2 : wc.cell? ⟨gb129, 2, none⟩ = some (.int .u8 a0_2) := (blk_cell BK129.out 2).trans rfl
                  have hcz19_3 : wc.cell? ⟨gb129, 3, none⟩ = some (.bool a0_3) := (blk_cell BK129.out 3).trans rfl
                  have hcz19_4 : wc.cell? ⟨gb129, 4, none⟩ = some (.int .u16 a0_4) := (blk_cell BK129.out 4).trans rfl
                  have hcz19_5 : wc.cell? ⟨gb129, 5, none⟩ = some (.int .u16 a0_5) := (blk_cell BK129.out 5).trans rfl
                  have hcz19_6 : wc.cell? ⟨gb129, 6, none⟩ = some (.string a0_6) := (blk_cell BK129.out 6).trans rfl
                  have hfz19_0 := blk_frozen BK129.out 0
                  have hfz19_1 := blk_frozen BK129.out 1
                  have hfz19_2 := blk_frozen BK129.out 2
                  have hfz19_3 := blk_frozen BK129.out 3
                  have hfz19_4 := blk_frozen BK129.out 4
                  have hfz19_5 := blk_frozen BK129.out 5
                  have hfz19_6 := blk_frozen BK129.out 6
                  go_wp2
                  go_ret
                  exact ⟨by first | rfl | (simp [errW_none, errW_some] <;> rfl) | (simp [*, errW_none, errW_some] <;> rfl), by repeat (first | (with_reducible first | exact HB.out | apply below_alloc | apply pw_below_drewN | apply below_drew1 | refine below_set ?_ GE129.out) | exact HB.out)⟩
                · rw [if_neg c18] at H
                  have c18b0 : decide (a0_5 < 1536) = false := decide_eq_false c18
                  clear c18
                  by_cases c20 : (a0_6.size : Int) > 1582
                  · rw [if_pos c20] at H
                    have c20b0 : decide (1582 < (a0_6.size : Int)) = true := decide_eq_true c20
                    have c20b1 : decide (1582 < a0_6.size) = true := decide_eq_true (by omega)
                    clear c20
                    obtain rfl := Option.some.inj H
                    have hcz21_0 : wc.cell? ⟨gb129, 0, none⟩ = some (.int .u64 a0_0) := (blk_cell BK129.out 0).trans rfl
                    have hcz21_1 : wc.cell? ⟨gb129, 1, none⟩ = some (.int .u64 a0_1) := (blk_cell BK129.out 1).trans rfl
                    have hcz21_2 : wc.cell? ⟨gb129, 2, none⟩ = some (.int .u8 a0_2) := (blk_cell BK129.out 2).trans rfl
                    have hcz21_3 : wc.cell? ⟨gb129, 3, none⟩ = some (.bool a0_3) := (blk_cell BK129.out 3).trans rfl
                    have hcz21_4 : wc.cell? ⟨gb129, 4, none⟩ = some (.int .u16 a0_4) := (blk_cell BK129.out 4).trans rfl
                    have hcz21_5 : wc.cell? ⟨gb129, 5, none⟩ = some (.int .u16 a0_5) := (blk_cell BK129.out 5).trans rfl
                    have hcz21_6 : wc.cell? ⟨gb129, 6, none⟩ = some (.string a0_6) := (blk_cell BK129.out 6).trans rfl
                    have hfz21_0 := blk_frozen BK129.out 0
                    have hfz21_1 := blk_frozen BK129.out 1
                    have hfz21_2 := blk_frozen BK129.out 2
                    have hfz21_3 := blk_frozen BK129.out 3
                    have hfz21_4 := blk_frozen BK129.out 4
                    have hfz21_5 := blk_frozen BK129.out 5
                    have hfz21_6 := blk_frozen BK129.out 6
                    go_wp2
                    go_ret
                    exact ⟨by first | rfl | (simp [errW_none, errW_some] <;> rfl) | (simp [*, errW_none, errW_some] <;> rfl), by repeat (first | (with_reducible first | exact HB.out | apply below_alloc | apply pw_below_drewN | apply below_drew1 | refine below_set ?_ GE129.out) | exact HB.out)⟩
                  · rw [if_neg c20] at H
                    have c20b0 : decide (1582 < (a0_6.size : Int)) = false := decide_eq_false c20
                    have c20b1 : decide (1582 < a0_6.size) = false := decide_eq_false (by omega)
                    clear c20
                    obtain rfl := Option.some.inj H
                    have hcz22_0 : wc.cell? ⟨gb129, 0, none⟩ = some (.int .u64 a0_0) := (blk_cell BK129.out 0).trans rfl
                    have hcz22_1 : wc.cell? ⟨gb129, 1, none⟩ = some (.int .u64 a0_1) := (blk_cell BK129.out 1).trans rfl
                    have hcz22_2 : wc.cell? ⟨gb129, 2, none⟩ = some (.int .u8 a0_2) := (blk_cell BK129.out 2).trans rfl
                    have hcz22_3 : wc.cell? ⟨gb129, 3, none⟩ = some (.bool a0_3) := (blk_cell BK129.out 3).trans rfl
                    have hcz22_4 : wc.cell? ⟨gb129, 4, none⟩ = some (.int .u16 a0_4) := (blk_cell BK129.out 4).trans rfl
                    have hcz22_5 : wc.cell? ⟨gb129, 5, none⟩ = some (.int .u16 a0_5) := (blk_cell BK129.out 5).trans rfl
                    have hcz22_6 : wc.cell? ⟨gb129, 6, none⟩ = some (.string a0_6) := (blk_cell BK129.out 6).trans rfl
                    have hfz22_0 := blk_frozen BK129.out 0
                    have hfz22_1 := blk_frozen BK129.out 1
                    have hfz22_2 := blk_frozen BK129.out 2
                    have hfz22_3 := blk_frozen BK129.out 3
                    have hfz22_4 := blk_frozen BK129.out 4
                    have hfz22_5 := blk_frozen BK129.out 5
                    have hfz22_6 := blk_frozen BK129.out 6
                    go_wp2
                    go_ret
                    exact ⟨by first | rfl | (simp [errW_none, errW_some] <;> rfl) | (simp [*, errW_none, errW_some] <;> rfl), by repeat (first | (with_reducible first | exact HB.out | apply below_alloc | apply pw_below_drewN | apply below_drew1 | refine below_set ?_ GE129.out) | exact HB.out)⟩
  · replace c3 := Bool.eq_false_iff.mpr c3
    subst c3
    have H1 : (some 3) = some r := by rw [if_neg (show ¬ (false = true) by decide)] at H; exact H
    clear H
    have H := H1
    clear H1
    obtain rfl := Option.some.inj H
    go_enter Try.func59, Try.ntmps59
    go_wp2_with (first | ((with_reducible refine gate_dst (N := 1) rfl ?_); refine box_event ?hg (N := 1) ?hd (cs := #[.int .u64 a0_0, .int .u64 a0_1, .int .u8 a0_2, .bool a0_3, .int .u16 a0_4, .int .u16 a0_5, .string a0_6]) (t := 54) ?hr ?_; (case hd => rfl); (case hg => rfl); (case hr => first | (go_simp; done) | (go_simp; rfl)); intro gb129 hg w23 hbox hb; have n0_ := Aside0.mk (below_step (by repeat (first | (with_reducible first | exact HB.out | apply below_alloc | apply pw_below_drewN | apply below_drew1) | exact HB.out)) hb); have n1_ := Aside0.mk (hbox); have n2_ := Aside0.mk ((by rw [hg]; exact (below_size (by repeat (first | (with_reducible first | exact HB.out | apply below_alloc | apply pw_below_drewN | apply below_drew1) | exact HB.out))) : w.heap.size ≤ gb129)); have n3_ := Aside0.mk ((by rw [hg]; exact (below_size (by repeat (first | (with_reducible first | exact HB.out | apply below_alloc | apply pw_below_drewN | apply below_drew1) | exact HB.out))) : w.heap.size ≤ gb129)); clear HB; have HB := n0_; have BK129 := n1_; have GW129 := n2_; have GE129 := n3_; clear n0_ n1_ n2_ n3_; clear hb hbox hg; have hcz24_0 : w23.cell? ⟨gb129, 0, none⟩ = some (.int .u64 a0_0) := (blk_cell BK129.out 0).trans rfl; have hcz24_1 : w23.cell? ⟨gb129, 1, none⟩ = some (.int .u64 a0_1) := (blk_cell BK129.out 1).trans rfl; have hcz24_2 : w23.cell? ⟨gb129, 2, none⟩ = some (.int .u8 a0_2) := (blk_cell BK129.out 2).trans rfl; have hcz24_3 : w23.cell? ⟨gb129, 3, none⟩ = some (.bool a0_3) := (blk_cell BK129.out 3).trans rfl; have hcz24_4 : w23.cell? ⟨gb129, 4, none⟩ = some (.int .u16 a0_4) := (blk_cell BK129.out 4).trans rfl; have hcz24_5 : w23.cell? ⟨gb129, 5, none⟩ = some (.int .u16 a0_5) := (blk_cell BK129.out 5).trans rfl; have hcz24_6 : w23.cell? ⟨gb129, 6, none⟩ = some (.string a0_6) := (blk_cell BK129.out 6).trans rfl; have hfz24_0 := blk_frozen BK129.out 0; have hfz24_1 := blk_frozen BK129.out 1; have hfz24_2 := blk_frozen BK129.out 2; have hfz24_3 := blk_frozen BK129.out 3; have hfz24_4 := blk_frozen BK129.out 4; have hfz24_5 := blk_frozen BK129.out 5; have hfz24_6 := blk_frozen BK129.out 6) | ((with_reducible refine gate_callee (f := 27) rfl ?_); refine goesL_ (some 6) rfl rfl Try.func27 (by kernel_rfl) rfl #[.int .u64 a0_0] rfl (by (try simp only [List.map_toArray, List.map_cons, List.map_nil]); first | done | rfl | (simp only [List.length_drop, List.length_take]; rfl)) ?_; (with_reducible refine (mac_Addr_May.calls a0_0 false _ A2.out).mono ?_); rintro e w' ⟨rfl, ⟨nd, rfl⟩⟩; refine ⟨_, rfl, ?_⟩))
    go_ret
    exact ⟨by first | rfl | (simp [errW_none, errW_some] <;> rfl) | (simp [*, errW_none, errW_some] <;> rfl), by repeat (first | (with_reducible first | exact HB.out | apply below_alloc | apply pw_below_drewN | apply below_drew1 | refine below_set ?_ GE129.out) | exact HB.out)⟩

/-! ### tagged_one: function 60 -/
def tagged_one.f (a0 : Bool) : Option (Int) := if a0 = true then (some 1) else (some 0)
set_option maxHeartbeats 8000000 in
set_option maxRecDepth 100000 in
theorem tagged_one.calls (a0 : Bool) (r : Int) (w : World) (h : tagged_one.f a0 = some r) :
    Calls Try.prog 60 #[.bool a0] w fun e w' => e = .returned (.int .u64 r) ∧ Drawn0 w w' := by
  have H : (if a0 = true then (some 1) else (some 0)) = some r := h
  clear h
  by_cases c2 : a0 = true
  · subst c2
    have H1 : (some 1) = some r := by rw [if_pos rfl] at H; exact H
    clear H
    have H := H1
    clear H1
    obtain rfl := Option.some.inj H
    go_enter Try.func60, Try.ntmps60
    go_wp2
    go_ret
    exact ⟨by first | rfl | (simp; done) | (simp [*]; done), by repeat (first | exact Drawn0.refl _ | apply Drawn0.step)⟩
  · replace c2 := Bool.eq_false_iff.mpr c2
    subst c2
    have H1 : (some 0) = some r := by rw [if_neg (show ¬ (false = true) by decide)] at H; exact H
    clear H
    have H := H1
    clear H1
    obtain rfl := Option.some.inj H
    go_enter Try.func60, Try.ntmps60
    go_wp2
    go_ret
    exact ⟨by first | rfl | (simp; done) | (simp [*]; done), by repeat (first | exact Drawn0.refl _ | apply Drawn0.step)⟩

end Go.Proofs.Ytmlenepeocginaa.PRelayNever
