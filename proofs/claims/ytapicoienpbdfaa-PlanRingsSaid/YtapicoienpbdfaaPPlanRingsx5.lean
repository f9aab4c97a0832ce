-- Written by a program of this work, after the translation.
import Derived.Test.YtapicoienpbdfaaPPlanRingsx0
import Derived.Test.YtapicoienpbdfaaPPlanRingsx2
import Derived.Test.YtapicoienpbdfaaPPlanRingsx3
import Derived.Test.YtapicoienpbdfaaPPlanRingsx4
namespace Go.Proofs.Ytapicoienpbdfaa.PPlanRings
open Go.RowKit Go.Proofs.YtapicoienpbdfaaW.PrintWords Go.Proofs.YtapicoienpbdfaaW.PrintLast Go.Proofs.YtapicoienpbdfaaW.PrintMore
attribute [local go_sem] max2_int min2_int max_two min_two max_three min_three max_four min_four   -- for this text's walks alone
set_option linter.unusedVariables false
set_option linter.unusedSimpArgs false

/-! ### carousellaw16_Awake: function 12 -/
def carousellaw16_Awake.f (k : Nat)  : Option (Bool) := (carousellaw16_Example.f).bind fun bt162 => ((plan_Plan_Far.f k bt162.1 bt162.2.1 bt162.2.2.1 bt162.2.2.2.1 bt162.2.2.2.2.1 bt162.2.2.2.2.2.1 bt162.2.2.2.2.2.2.1 bt162.2.2.2.2.2.2.2.1 bt162.2.2.2.2.2.2.2.2.1 bt162.2.2.2.2.2.2.2.2.2.1 bt162.2.2.2.2.2.2.2.2.2.2.1 bt162.2.2.2.2.2.2.2.2.2.2.2.1 bt162.2.2.2.2.2.2.2.2.2.2.2.2.1 bt162.2.2.2.2.2.2.2.2.2.2.2.2.2.1 bt162.2.2.2.2.2.2.2.2.2.2.2.2.2.2.1 bt162.2.2.2.2.2.2.2.2.2.2.2.2.2.2.2 3 1).bind fun bt179 => ((carousellaw02_Awake.f k).bind fun t181 => (if t181 = true then ((carousellaw06_Awake.f k).bind fun t182 => (if t182 = true then ((plan_Plan_Check.f k bt162.1 bt162.2.1 bt162.2.2.1 bt162.2.2.2.1 bt162.2.2.2.2.1 bt162.2.2.2.2.2.1 bt162.2.2.2.2.2.2.1 bt162.2.2.2.2.2.2.2.1 bt162.2.2.2.2.2.2.2.2.1 bt162.2.2.2.2.2.2.2.2.2.1 bt162.2.2.2.2.2.2.2.2.2.2.1 bt162.2.2.2.2.2.2.2.2.2.2.2.1 bt162.2.2.2.2.2.2.2.2.2.2.2.2.1 bt162.2.2.2.2.2.2.2.2.2.2.2.2.2.1 bt162.2.2.2.2.2.2.2.2.2.2.2.2.2.2.1 bt162.2.2.2.2.2.2.2.2.2.2.2.2.2.2.2).bind fun t183 => (if t183 = 0 then (if bt179.1 = 0 then (some (bt179.2 == 0)) else (some false)) else (some false))) else (some false))) else (some false))))
theorem carousellaw16_Awake.mono : ∀ k, LeO (carousellaw16_Awake.f k ) (carousellaw16_Awake.f (k + 1) ) := by
  intro  k
  unfold carousellaw16_Awake.f
  repeat' first
      | (with_reducible exact carousellaw02_Awake.mono _)
      | (with_reducible exact carousellaw06_Awake.mono _)
      | (with_reducible exact plan_Plan_Check.mono _ _ _ _ _ _ _ _ _ _ _ _ _ _ _ _ _)
      | (with_reducible exact plan_Plan_Far.mono _ _ _ _ _ _ _ _ _ _ _ _ _ _ _ _ _ _ _)
      | (with_reducible exact LeO.refl _)
      | (with_reducible exact LeO.none _)
      | (with_reducible refine LeO.ite ?_ ?_)
      | (with_reducible refine LeO.bind ?_ (fun _ => ?_))
      | exact carousellaw02_Awake.mono _
      | exact carousellaw06_Awake.mono _
      | exact plan_Plan_Check.mono _ _ _ _ _ _ _ _ _ _ _ _ _ _ _ _ _
      | exact plan_Plan_Far.mono _ _ _ _ _ _ _ _ _ _ _ _ _ _ _ _ _ _ _
      | exact LeO.none _
      | refine LeO.ite ?_ ?_
      | refine LeO.bind ?_ (fun _ => ?_)
set_option maxHeartbeats 8000000 in
set_option maxRecDepth 100000 in
theorem carousellaw16_Awake.calls (k : Nat)  (r : Bool) (w : World) (h : carousellaw16_Awake.f k  = some r) :
    Calls Try.prog 12 #[] w fun e w' => e = .returned (.bool r) ∧ Below w.heap.size w w' := by
  have hT : r = true := by
    obtain ⟨K_, hK_⟩ := (Ev.of carousellaw16_Awake.mono (k := 60) (by decide +kernel) : Ev (fun k => carousellaw16_Awake.f k) true)
    have h1_ := at_rounds carousellaw16_Awake.mono (Nat.le_max_left k K_) h
    exact (Option.some.inj ((hK_ _ (Nat.le_max_right k K_)).symm.trans h1_)).symm
  have hu24 := Try.underlying24
  have HB := Aside0.mk (Below.refl w.heap.size w)
  have H : ((carousellaw16_Example.f).bind fun bt162 => ((plan_Plan_Far.f k bt162.1 bt162.2.1 bt162.2.2.1 bt162.2.2.2.1 bt162.2.2.2.2.1 bt162.2.2.2.2.2.1 bt162.2.2.2.2.2.2.1 bt162.2.2.2.2.2.2.2.1 bt162.2.2.2.2.2.2.2.2.1 bt162.2.2.2.2.2.2.2.2.2.1 bt162.2.2.2.2.2.2.2.2.2.2.1 bt162.2.2.2.2.2.2.2.2.2.2.2.1 bt162.2.2.2.2.2.2.2.2.2.2.2.2.1 bt162.2.2.2.2.2.2.2.2.2.2.2.2.2.1 bt162.2.2.2.2.2.2.2.2.2.2.2.2.2.2.1 bt162.2.2.2.2.2.2.2.2.2.2.2.2.2.2.2 3 1).bind fun bt179 => ((carousellaw02_Awake.f k).bind fun t181 => (if t181 = true then ((carousellaw06_Awake.f k).bind fun t182 => (if t182 = true then ((plan_Plan_Check.f k bt162.1 bt162.2.1 bt162.2.2.1 bt162.2.2.2.1 bt162.2.2.2.2.1 bt162.2.2.2.2.2.1 bt162.2.2.2.2.2.2.1 bt162.2.2.2.2.2.2.2.1 bt162.2.2.2.2.2.2.2.2.1 bt162.2.2.2.2.2.2.2.2.2.1 bt162.2.2.2.2.2.2.2.2.2.2.1 bt162.2.2.2.2.2.2.2.2.2.2.2.1 bt162.2.2.2.2.2.2.2.2.2.2.2.2.1 bt162.2.2.2.2.2.2.2.2.2.2.2.2.2.1 bt162.2.2.2.2.2.2.2.2.2.2.2.2.2.2.1 bt162.2.2.2.2.2.2.2.2.2.2.2.2.2.2.2).bind fun t183 => (if t183 = 0 then (if bt179.1 = 0 then (some (bt179.2 == 0)) else (some false)) else (some false))) else (some false))) else (some false))))) = some r := h
  clear h
  replace H := Option.bind_eq_some_iff.mp H
  obtain ⟨⟨t162, t163, t164, t165, t166, t167, t168, t169, t170, t171, t172, t173, t174, t175, t176, t177⟩, A10, H⟩ := H
  replace H : ((plan_Plan_Far.f k t162 t163 t164 t165 t166 t167 t168 t169 t170 t171 t172 t173 t174 t175 t176 t177 3 1).bind fun bt179 => ((carousellaw02_Awake.f k).bind fun t181 => (if t181 = true then ((carousellaw06_Awake.f k).bind fun t182 => (if t182 = true then ((plan_Plan_Check.f k t162 t163 t164 t165 t166 t167 t168 t169 t170 t171 t172 t173 t174 t175 t176 t177).bind fun t183 => (if t183 = 0 then (if bt179.1 = 0 then (some (bt179.2 == 0)) else (some false)) else (some false))) else (some false))) else (some false)))) = some r := H
  have A1 := Aside0.mk A10
  clear A10
  replace H := Option.bind_eq_some_iff.mp H
  obtain ⟨⟨t179, t180⟩, A20, H⟩ := H
  replace H : ((carousellaw02_Awake.f k).bind fun t181 => (if t181 = true then ((carousellaw06_Awake.f k).bind fun t182 => (if t182 = true then ((plan_Plan_Check.f k t162 t163 t164 t165 t166 t167 t168 t169 t170 t171 t172 t173 t174 t175 t176 t177).bind fun t183 => (if t183 = 0 then (if t179 = 0 then (some (t180 == 0)) else (some false)) else (some false))) else (some false))) else (some false))) = some r := H
  have A2 := Aside0.mk A20
  clear A20
  replace H := Option.bind_eq_some_iff.mp H
  obtain ⟨t181, A30, H⟩ := H
  replace H : (if t181 = true then ((carousellaw06_Awake.f k).bind fun t182 => (if t182 = true then ((plan_Plan_Check.f k t162 t163 t164 t165 t166 t167 t168 t169 t170 t171 t172 t173 t174 t175 t176 t177).bind fun t183 => (if t183 = 0 then (if t179 = 0 then (some (t180 == 0)) else (some false)) else (some false))) else (some false))) else (some false)) = some r := H
  have A3 := Aside0.mk A30
  clear A30
  by_cases c4 : t181 = true
  · subst c4
    have H1 : ((carousellaw06_Awake.f k).bind fun t182 => (if t182 = true then ((plan_Plan_Check.f k t162 t163 t164 t165 t166 t167 t168 t169 t170 t171 t172 t173 t174 t175 t176 t177).bind fun t183 => (if t183 = 0 then (if t179 = 0 then (some (t180 == 0)) else (some false)) else (some false))) else (some false))) = some r := by rw [if_pos rfl] at H; exact H
    clear H
    have H := H1
    clear H1
    replace H := Option.bind_eq_some_iff.mp H
    obtain ⟨t182, A50, H⟩ := H
    replace H : (if t182 = true then ((plan_Plan_Check.f k t162 t163 t164 t165 t166 t167 t168 t169 t170 t171 t172 t173 t174 t175 t176 t177).bind fun t183 => (if t183 = 0 then (if t179 = 0 then (some (t180 == 0)) else (some false)) else (some false))) else (some false)) = some r := H
    have A5 := Aside0.mk A50
    clear A50
    by_cases c6 : t182 = true
    · subst c6
      have H1 : ((plan_Plan_Check.f k t162 t163 t164 t165 t166 t167 t168 t169 t170 t171 t172 t173 t174 t175 t176 t177).bind fun t183 => (if t183 = 0 then (if t179 = 0 then (some (t180 == 0)) else (some false)) else (some false))) = some r := by rw [if_pos rfl] at H; exact H
      clear H
      have H := H1
      clear H1
      replace H := Option.bind_eq_some_iff.mp H
      obtain ⟨t183, A70, H⟩ := H
      replace H : (if t183 = 0 then (if t179 = 0 then (some (t180 == 0)) else (some false)) else (some false)) = some r := H
      have A7 := Aside0.mk A70
      clear A70
      by_cases c8 : t183 = 0
      · rw [if_pos c8] at H
        have c8b0 : (t183 == 0) = true := beq_iff_eq.mpr c8
        have c8b1 : (t183 != 0) = false := bne_eq_false_iff_eq.mpr c8
        clear c8
        by_cases c9 : t179 = 0
        · rw [if_pos c9] at H
          have c9b0 : (t179 == 0) = true := beq_iff_eq.mpr c9
          have c9b1 : (t179 != 0) = false := bne_eq_false_iff_eq.mpr c9
          clear c9
          obtain rfl := Option.some.inj H
          go_enter Try.func12, Try.ntmps12
          go_wp2_with (first | ((with_reducible refine gate_callee (f := 35) rfl ?_); refine goesL_ (some 4) rfl rfl Try.func35 (by kernel_rfl) rfl #[] rfl (by (try simp only [List.map_toArray, List.map_cons, List.map_nil]); first | done | rfl | (simp only [List.length_drop, List.length_take]; rfl)) ?_; (with_reducible refine (carousellaw16_Example.calls  t162 t163 t164 t165 t166 t167 t168 t169 t170 t171 t172 t173 t174 t175 t176 t177 _ A1.out).mono ?_); rintro e w10 ⟨rfl, hb⟩; refine ⟨_, rfl, ?_⟩; have n0_ := Aside0.mk (below_step (by repeat (first | (with_reducible first | exact HB.out | apply below_alloc | apply pw_below_drewN | apply below_drew1) | exact HB.out)) hb); clear HB; have HB := n0_; clear n0_; (try clear hb); (try clear hb2); (try clear hk); (try clear hi)) | ((with_reducible refine gate_dst (N := 1) rfl ?_); refine box_event ?hg (N := 1) ?hd (cs := #[.int .i64 0, .int .i64 0, .int .u8 0, .int .u16 0, .int .u16 0, .int .i64 0, .int .i64 0, .int .i64 0, .int .i64 0, .int .i64 0, .int .i64 0, .int .i64 0, .int .i64 0, .int .i64 0, .int .i64 0, .bool false]) (t := 24) ?hr ?_; (case hd => rfl); (case hg => rfl); (case hr => first | (go_simp; done) | (go_simp; rfl)); intro gb178 hg w11 hbox hb; have n0_ := Aside0.mk (below_step (by repeat (first | (with_reducible first | exact HB.out | apply below_alloc | apply pw_below_drewN | apply below_drew1) | exact HB.out)) hb); have n1_ := Aside0.mk (hbox); have n2_ := Aside0.mk ((by rw [hg]; exact (below_size (by repeat (first | (with_reducible first | exact HB.out | apply below_alloc | apply pw_below_drewN | apply below_drew1) | exact HB.out))) : w.heap.size ≤ gb178)); have n3_ := Aside0.mk ((by rw [hg]; exact (below_size (by repeat (first | (with_reducible first | exact HB.out | apply below_alloc | apply pw_below_drewN | apply below_drew1) | exact HB.out))) : w.heap.size ≤ gb178)); clear HB; have HB := n0_; have BK178 := n1_; have GW178 := n2_; have GE178 := n3_; clear n0_ n1_ n2_ n3_; clear hb hbox hg; have hcz12_0 : w11.cell? ⟨gb178, 0, none⟩ = some (.int .i64 0) := (blk_cell BK178.out 0).trans rfl; have hcz12_1 : w11.cell? ⟨gb178, 1, none⟩ = some (.int .i64 0) := (blk_cell BK178.out 1).trans rfl; have hcz12_2 : w11.cell? ⟨gb178, 2, none⟩ = some (.int .u8 0) := (blk_cell BK178.out 2).trans rfl; have hcz12_3 : w11.cell? ⟨gb178, 3, none⟩ = some (.int .u16 0) := (blk_cell BK178.out 3).trans rfl; have hcz12_4 : w11.cell? ⟨gb178, 4, none⟩ = some (.int .u16 0) := (blk_cell BK178.out 4).trans rfl; have hcz12_5 : w11.cell? ⟨gb178, 5, none⟩ = some (.int .i64 0) := (blk_cell BK178.out 5).trans rfl; have hcz12_6 : w11.cell? ⟨gb178, 6, none⟩ = some (.int .i64 0) := (blk_cell BK178.out 6).trans rfl; have hcz12_7 : w11.cell? ⟨gb178, 7, none⟩ = some (.int .i64 0) := (blk_cell BK178.out 7).trans rfl; have hcz12_8 : w11.cell? ⟨gb178, 8, none⟩ = some (.int .i64 0) := (blk_cell BK178.out 8).trans rfl; have hcz12_9 : w11.cell? ⟨gb178, 9, none⟩ = some (.int .i64 0) := (blk_cell BK178.out 9).trans rfl; have hcz12_10 : w11.cell? ⟨gb178, 10, none⟩ = some (.int .i64 0) := (blk_cell BK178.out 10).trans rfl; have hcz12_11 : w11.cell? ⟨gb178, 11, none⟩ = some (.int .i64 0) := (blk_cell BK178.out 11).trans rfl; have hcz12_12 : w11.cell? ⟨gb178, 12, none⟩ = some (.int .i64 0) := (blk_cell BK178.out 12).trans rfl; have hcz12_13 : w11.cell? ⟨gb178, 13, none⟩ = some (.int .i64 0) := (blk_cell BK178.out 13).trans rfl; have hcz12_14 : w11.cell? ⟨gb178, 14, none⟩ = some (.int .i64 0) := (blk_cell BK178.out 14).trans rfl; have hcz12_15 : w11.cell? ⟨gb178, 15, none⟩ = some (.bool false) := (blk_cell BK178.out 15).trans rfl; have hfz12_0 := blk_frozen BK178.out 0; have hfz12_1 := blk_frozen BK178.out 1; have hfz12_2 := blk_frozen BK178.out 2; have hfz12_3 := blk_frozen BK178.out 3; have hfz12_4 := blk_frozen BK178.out 4; have hfz12_5 := blk_frozen BK178.out 5; have hfz12_6 := blk_frozen BK178.out 6; have hfz12_7 := blk_frozen BK178.out 7; have hfz12_8 := blk_frozen BK178.out 8; have hfz12_9 := blk_frozen BK178.out 9; have hfz12_10 := blk_frozen BK178.out 10; have hfz12_11 := blk_frozen BK178.out 11; have hfz12_12 := blk_frozen BK178.out 12; have hfz12_13 := blk_frozen BK178.out 13; have hfz12_14 := blk_frozen BK178.out 14; have hfz12_15 := blk_frozen BK178.out 15) | ((with_reducible refine gate_callee (f := 10) rfl ?_); refine goesL_ (some 7) rfl rfl Try.func10 (by kernel_rfl) rfl #[.agg #[.int .i64 t162, .int .i64 t163, .int .u8 t164, .int .u16 t165, .int .u16 t166, .int .i64 t167, .int .i64 t168, .int .i64 t169, .int .i64 t170, .int .i64 t171, .int .i64 t172, .int .i64 t173, .int .i64 t174, .int .i64 t175, .int .i64 t176, .bool t177], .int .i64 3, .int .i64 1] rfl (by (try simp only [List.map_toArray, List.map_cons, List.map_nil]); first | done | rfl | (simp only [List.length_drop, List.length_take]; rfl)) ?_; (with_reducible refine (plan_Plan_Far.calls k t162 t163 t164 t165 t166 t167 t168 t169 t170 t171 t172 t173 t174 t175 t176 t177 3 1 t179 t180 _ A2.out).mono ?_); rintro e w13 ⟨rfl, hb⟩; refine ⟨_, rfl, ?_⟩; have n0_ := Aside0.mk (blk_below (g := gb178) (o := .cells #[.int .i64 t162, .int .i64 t163, .int .u8 t164, .int .u16 t165, .int .u16 t166, .int .i64 t167, .int .i64 t168, .int .i64 t169, .int .i64 t170, .int .i64 t171, .int .i64 t172, .int .i64 t173, .int .i64 t174, .int .i64 t175, .int .i64 t176, .bool t177] 24 (0, 0)) (by (with_reducible repeat (first | refine blk_drewN ?_ _ | refine blk_drew ?_ | refine blk_alloc ?_ _)); refine blk_put (cs := #[.int .i64 t162, .int .i64 t163, .int .u8 t164, .int .u16 t165, .int .u16 t166, .int .i64 t167, .int .i64 t168, .int .i64 t169, .int .i64 t170, .int .i64 t171, .int .i64 t172, .int .i64 t173, .int .i64 t174, .int .i64 t175, .int .i64 t176, .bool false]) ?_ 15 _ rfl; (with_reducible repeat (first | refine blk_drewN ?_ _ | refine blk_drew ?_ | refine blk_alloc ?_ _)); refine blk_put (cs := #[.int .i64 t162, .int .i64 t163, .int .u8 t164, .int .u16 t165, .int .u16 t166, .int .i64 t167, .int .i64 t168, .int .i64 t169, .int .i64 t170, .int .i64 t171, .int .i64 t172, .int .i64 t173, .int .i64 t174, .int .i64 t175, .int .i64 0, .bool false]) ?_ 14 _ rfl; (with_reducible repeat (first | refine blk_drewN ?_ _ | refine blk_drew ?_ | refine blk_alloc ?_ _)); refine blk_put (cs := #[.int .i64 t162, .int .i64 t163, .int .u8 t164, .int .u16 t165, .int .u16 t166, .int .i64 t167, .int .i64 t168, .int .i64 t169, .int .i64 t170, .int .i64 t171, .int .i64 t172, .int .i64 t173, .int .i64 t174, .int .i64 0, .int .i64 0, .bool false]) ?_ 13 _ rfl; (with_reducible repeat (first | refine blk_drewN ?_ _ | refine blk_drew ?_ | refine blk_alloc ?_ _)); refine blk_put (cs := #[.int .i64 t162, .int .i64 t163, .int .u8 t164, .int .u16 t165, .int .u16 t166, .int .i64 t167, .int .i64 t168, .int .i64 t169, .int .i64 t170, .int .i64 t171, .int .i64 t172, .int .i64 t173, .int .i64 0, .int .i64 0, .int .i64 0, .bool false]) ?_ 12 _ rfl; (with_reducible repeat (first | refine blk_drewN ?_ _ | refine blk_drew ?_ | refine blk_alloc ?_ _)); refine blk_put (cs := #[.int .i64 t162, .int .i64 t163, .int .u8 t164, .int .u16 t165, .int .u16 t166, .int .i64 t167, .int .i64 t168, .int .i64 t169, .int .i64 t170, .int .i64 t171, .int .i64 t172, .int .i64 0, .int .i64 0, .int .i64 0, .int .i64 0, .bool false]) ?_ 11 _ rfl; (with_reducible repeat (first | refine blk_drewN ?_ _ | refine blk_drew ?_ | refine blk_alloc ?_ _)); refine blk_put (cs := #[.int .i64 t162, .int .i64 t163, .int .u8 t164, .int .u16 t165, .int .u16 t166, .int .i64 t167, .int .i64 t168, .int .i64 t169, .int .i64 t170, .int .i64 t171, .int .i64 0, .int .i64 0, .int .i64 0, .int .i64 0, .int .i64 0, .bool false]) ?_ 10 _ rfl; (with_reducible repeat (first | refine blk_drewN ?_ _ | refine blk_drew ?_ | refine blk_alloc ?_ _)); refine blk_put (cs := #[.int .i64 t162, .int .i64 t163, .int .u8 t164, .int .u16 t165, .int .u16 t166, .int .i64 t167, .int .i64 t168, .int .i64 t169, .int .i64 t170, .int .i64 0, .int .i64 0, .int .i64 0, .int .i64 0, .int .i64 0, .int .i64 0, .bool false]) ?_ 9 _ rfl; (with_reducible repeat (first | refine blk_drewN ?_ _ | refine blk_drew ?_ | refine blk_alloc ?_ _)); refine blk_put (cs := #[.int .i64 t162, .int .i64 t163, .int .u8 t164, .int .u16 t165, .int .u16 t166, .int .i64 t167, .int .i64 t168, .int .i64 t169, .int .i64 0, .int .i64 0, .int .i64 0, .int .i64 0, .int .i64 0, .int .i64 0, .int .i64 0, .bool false]) ?_ 8 _ rfl; (with_reducible repeat (first | refine blk_drewN ?_ _ | refine blk_drew ?_ | refine blk_alloc ?_ _)); refine blk_put (cs := #[.int .i64 t162, .int .i64 t163, .int .u8 t164, .int .u16 t165, .int .u16 t166, .int .i64 t167, .int .i64 t168, .int .i64 0, .int .i64 0, .int .i64 0, .int .i64 0, .int .i64 0, .int .i64 0, .int .i64 0, .int .i64 0, .bool false]) ?_ 7 _ rfl; (with_reducible repeat (first | refine blk_drewN ?_ _ | refine blk_drew ?_ | refine blk_alloc ?_ _)); refine blk_put (cs := #[.int .i64 t162, .int .i64 t163, .int .u8 t164, .int .u16 t165, .int .u16 t166, .int .i64 t167, .int .i64 0, .int .i64 0, .int .i64 0, .int .i64 0, .int .i64 0, .int .i64 0, .int .i64 0, .int .i64 0, .int .i64 0, .bool false]) ?_ 6 _ rfl; (with_reducible repeat (first | refine blk_drewN ?_ _ | refine blk_drew ?_ | refine blk_alloc ?_ _)); refine blk_put (cs := #[.int .i64 t162, .int .i64 t163, .int .u8 t164, .int .u16 t165, .int .u16 t166, .int .i64 0, .int .i64 0, .int .i64 0, .int .i64 0, .int .i64 0, .int .i64 0, .int .i64 0, .int .i64 0, .int .i64 0, .int .i64 0, .bool false]) ?_ 5 _ rfl; (with_reducible repeat (first | refine blk_drewN ?_ _ | refine blk_drew ?_ | refine blk_alloc ?_ _)); refine blk_put (cs := #[.int .i64 t162, .int .i64 t163, .int .u8 t164, .int .u16 t165, .int .u16 0, .int .i64 0, .int .i64 0, .int .i64 0, .int .i64 0, .int .i64 0, .int .i64 0, .int .i64 0, .int .i64 0, .int .i64 0, .int .i64 0, .bool false]) ?_ 4 _ rfl; (with_reducible repeat (first | refine blk_drewN ?_ _ | refine blk_drew ?_ | refine blk_alloc ?_ _)); refine blk_put (cs := #[.int .i64 t162, .int .i64 t163, .int .u8 t164, .int .u16 0, .int .u16 0, .int .i64 0, .int .i64 0, .int .i64 0, .int .i64 0, .int .i64 0, .int .i64 0, .int .i64 0, .int .i64 0, .int .i64 0, .int .i64 0, .bool false]) ?_ 3 _ rfl; (with_reducible repeat (first | refine blk_drewN ?_ _ | refine blk_drew ?_ | refine blk_alloc ?_ _)); refine blk_put (cs := #[.int .i64 t162, .int .i64 t163, .int .u8 0, .int .u16 0, .int .u16 0, .int .i64 0, .int .i64 0, .int .i64 0, .int .i64 0, .int .i64 0, .int .i64 0, .int .i64 0, .int .i64 0, .int .i64 0, .int .i64 0, .bool false]) ?_ 2 _ rfl; (with_reducible repeat (first | refine blk_drewN ?_ _ | refine blk_drew ?_ | refine blk_alloc ?_ _)); refine blk_put (cs := #[.int .i64 t162, .int .i64 0, .int .u8 0, .int .u16 0, .int .u16 0, .int .i64 0, .int .i64 0, .int .i64 0, .int .i64 0, .int .i64 0, .int .i64 0, .int .i64 0, .int .i64 0, .int .i64 0, .int .i64 0, .bool false]) ?_ 1 _ rfl; (with_reducible repeat (first | refine blk_drewN ?_ _ | refine blk_drew ?_ | refine blk_alloc ?_ _)); refine blk_put (cs := #[.int .i64 0, .int .i64 0, .int .u8 0, .int .u16 0, .int .u16 0, .int .i64 0, .int .i64 0, .int .i64 0, .int .i64 0, .int .i64 0, .int .i64 0, .int .i64 0, .int .i64 0, .int .i64 0, .int .i64 0, .bool false]) ?_ 0 _ rfl; (with_reducible repeat (first | refine blk_drewN ?_ _ | refine blk_drew ?_ | refine blk_alloc ?_ _)); exact BK178.out) hb); have n1_ := Aside0.mk (below_step (by repeat (first | (with_reducible first | exact HB.out | apply below_alloc | apply pw_below_drewN | apply below_drew1 | refine below_set ?_ GE178.out) | exact HB.out)) hb); clear BK178; clear HB; have BK178 := n0_; have HB := n1_; clear n0_ n1_; (try clear hb); (try clear hb2); (try clear hk); (try clear hi)) | ((with_reducible refine gate_callee (f := 36) rfl ?_); refine goesL_ (some 10) rfl rfl Try.func36 (by kernel_rfl) rfl #[] rfl (by (try simp only [List.map_toArray, List.map_cons, List.map_nil]); first | done | rfl | (simp only [List.length_drop, List.length_take]; rfl)) ?_; (with_reducible refine (carousellaw02_Awake.calls k  true _ A3.out).mono ?_); rintro e w14 ⟨rfl, hb⟩; refine ⟨_, rfl, ?_⟩; have n0_ := Aside0.mk (blk_below (g := gb178) (o := .cells #[.int .i64 t162, .int .i64 t163, .int .u8 t164, .int .u16 t165, .int .u16 t166, .int .i64 t167, .int .i64 t168, .int .i64 t169, .int .i64 t170, .int .i64 t171, .int .i64 t172, .int .i64 t173, .int .i64 t174, .int .i64 t175, .int .i64 t176, .bool t177] 24 (0, 0)) (by (with_reducible repeat (first | refine blk_drewN ?_ _ | refine blk_drew ?_ | refine blk_alloc ?_ _)); exact BK178.out) hb); have n1_ := Aside0.mk (below_step (by repeat (first | (with_reducible first | exact HB.out | apply below_alloc | apply pw_below_drewN | apply below_drew1 | refine below_set ?_ GE178.out) | exact HB.out)) hb); clear BK178; clear HB; have BK178 := n0_; have HB := n1_; clear n0_ n1_; (try clear hb); (try clear hb2); (try clear hk); (try clear hi)) | (go_at_call 37; (with_reducible refine (carousellaw06_Awake.calls k  true _ A5.out).mono ?_); rintro e w15 ⟨rfl, hb⟩; have n0_ := Aside0.mk (blk_below (g := gb178) (o := .cells #[.int .i64 t162, .int .i64 t163, .int .u8 t164, .int .u16 t165, .int .u16 t166, .int .i64 t167, .int .i64 t168, .int .i64 t169, .int .i64 t170, .int .i64 t171, .int .i64 t172, .int .i64 t173, .int .i64 t174, .int .i64 t175, .int .i64 t176, .bool t177] 24 (0, 0)) (by (with_reducible repeat (first | refine blk_drewN ?_ _ | refine blk_drew ?_ | refine blk_alloc ?_ _)); exact BK178.out) hb); have n1_ := Aside0.mk (below_step (by repeat (first | (with_reducible first | exact HB.out | apply below_alloc | apply pw_below_drewN | apply below_drew1 | refine below_set ?_ GE178.out) | exact HB.out)) hb); clear BK178; clear HB; have BK178 := n0_; have HB := n1_; clear n0_ n1_; (try clear hb); (try clear hb2); (try clear hk); (try clear hi); have hcz16_0 : w15.cell? ⟨gb178, 0, none⟩ = some (.int .i64 t162) := (blk_cell BK178.out 0).trans rfl; have hcz16_1 : w15.cell? ⟨gb178, 1, none⟩ = some (.int .i64 t163) := (blk_cell BK178.out 1).trans rfl; have hcz16_2 : w15.cell? ⟨gb178, 2, none⟩ = some (.int .u8 t164) := (blk_cell BK178.out 2).trans rfl; have hcz16_3 : w15.cell? ⟨gb178, 3, none⟩ = some (.int .u16 t165) := (blk_cell BK178.out 3).trans rfl; have hcz16_4 : w15.cell? ⟨gb178, 4, none⟩ = some (.int .u16 t166) := (blk_cell BK178.out 4).trans rfl; have hcz16_5 : w15.cell? ⟨gb178, 5, none⟩ = some (.int .i64 t167) := (blk_cell BK178.out 5).trans rfl; have hcz16_6 : w15.cell? ⟨gb178, 6, none⟩ = some (.int .i64 t168) := (blk_cell BK178.out 6).trans rfl; have hcz16_7 : w15.cell? ⟨gb178, 7, none⟩ = some (.int .i64 t169) := (blk_cell BK178.out 7).trans rfl; have hcz16_8 : w15.cell? ⟨gb178, 8, none⟩ = some (.int .i64 t170) := (blk_cell BK178.out 8).trans rfl; have hcz16_9 : w15.cell? ⟨gb178, 9, none⟩ = some (.int .i64 t171) := (blk_cell BK178.out 9).trans rfl; have hcz16_10 : w15.cell? ⟨gb178, 10, none⟩ = some (.int .i64 t172) := (blk_cell BK178.out 10).trans rfl; have hcz16_11 : w15.cell? ⟨gb178, 11, none⟩ = some (.int .i64 t173) := (blk_cell BK178.out 11).trans rfl; have hcz16_12 : w15.cell? ⟨gb178, 12, none⟩ = some (.int .i64 t174) := (blk_cell BK178.out 12).trans rfl; have hcz16_13 : w15.cell? ⟨gb178, 13, none⟩ = some (.int .i64 t175) := (blk_cell BK178.out 13).trans rfl; have hcz16_14 : w15.cell? ⟨gb178, 14, none⟩ = some (.int .i64 t176) := (blk_cell BK178.out 14).trans rfl; have hcz16_15 : w15.cell? ⟨gb178, 15, none⟩ = some (.bool t177) := (blk_cell BK178.out 15).trans rfl; have hfz16_0 := blk_frozen BK178.out 0; have hfz16_1 := blk_frozen BK178.out 1; have hfz16_2 := blk_frozen BK178.out 2; have hfz16_3 := blk_frozen BK178.out 3; have hfz16_4 := blk_frozen BK178.out 4; have hfz16_5 := blk_frozen BK178.out 5; have hfz16_6 := blk_frozen BK178.out 6; have hfz16_7 := blk_frozen BK178.out 7; have hfz16_8 := blk_frozen BK178.out 8; have hfz16_9 := blk_frozen BK178.out 9; have hfz16_10 := blk_frozen BK178.out 10; have hfz16_11 := blk_frozen BK178.out 11; have hfz16_12 := blk_frozen BK178.out 12; have hfz16_13 := blk_frozen BK178.out 13; have hfz16_14 := blk_frozen BK178.out 14; have hfz16_15 := blk_frozen BK178.out 15) | (go_at_call 30; (with_reducible refine (plan_Plan_Check.calls k t162 t163 t164 t165 t166 t167 t168 t169 t170 t171 t172 t173 t174 t175 t176 t177 t183 _ A7.out).mono ?_); rintro e w17 ⟨rfl, hb⟩; have n0_ := Aside0.mk (blk_below (g := gb178) (o := .cells #[.int .i64 t162, .int .i64 t163, .int .u8 t164, .int .u16 t165, .int .u16 t166, .int .i64 t167, .int .i64 t168, .int .i64 t169, .int .i64 t170, .int .i64 t171, .int .i64 t172, .int .i64 t173, .int .i64 t174, .int .i64 t175, .int .i64 t176, .bool t177] 24 (0, 0)) (by (with_reducible repeat (first | refine blk_drewN ?_ _ | refine blk_drew ?_ | refine blk_alloc ?_ _)); exact BK178.out) hb); have n1_ := Aside0.mk (below_step (by repeat (first | (with_reducible first | exact HB.out | apply below_alloc | apply pw_below_drewN | apply below_drew1 | refine below_set ?_ GE178.out) | exact HB.out)) hb); clear BK178; clear HB; have BK178 := n0_; have HB := n1_; clear n0_ n1_; (try clear hb); (try clear hb2); (try clear hk); (try clear hi)))
          go_ret
          exact ⟨by first | rfl | (simp [errW_none, errW_some] <;> rfl) | (simp [*, errW_none, errW_some] <;> rfl), by repeat (first | (with_reducible first | exact HB.out | apply below_alloc | apply pw_below_drewN | apply below_drew1 | refine below_set ?_ GE178.out) | exact HB.out)⟩
        · rw [if_neg c9] at H
          have c9b0 : (t179 == 0) = false := beq_eq_false_iff_ne.mpr c9
          have c9b1 : (t179 != 0) = true := bne_iff_ne.mpr c9
          cases (Option.some.inj H).trans hT
      · rw [if_neg c8] at H
        have c8b0 : (t183 == 0) = false := beq_eq_false_iff_ne.mpr c8
        have c8b1 : (t183 != 0) = true := bne_iff_ne.mpr c8
        cases (Option.some.inj H).trans hT
    · replace c6 := Bool.eq_false_iff.mpr c6
      subst c6
      have H1 : (some false) = some r := by rw [if_neg (show ¬ (false = true) by decide)] at H; exact H
      clear H
      have H := H1
      clear H1
      cases (Option.some.inj H).trans hT
  · replace c4 := Bool.eq_false_iff.mpr c4
    subst c4
    have H1 : (some false) = some r := by rw [if_neg (show ¬ (false = true) by decide)] at H; exact H
    clear H
    have H := H1
    clear H1
    cases (Option.some.inj H).trans hT

/-! ### plan_Plan_Node: function 13 -/
def plan_Plan_Node.f (k : Nat) (a0_0 : Int) (a0_1 : Int) (a0_2 : Int) (a0_3 : Int) (a0_4 : Int) (a0_5 : Int) (a0_6 : Int) (a0_7 : Int) (a0_8 : Int) (a0_9 : Int) (a0_10 : Int) (a0_11 : Int) (a0_12 : Int) (a0_13 : Int) (a0_14 : Int) (a0_15 : Bool) (a1 : Int) : Option (Int) := (plan_Plan_has.f k a0_0 a0_1 a0_2 a0_3 a0_4 a0_5 a0_6 a0_7 a0_8 a0_9 a0_10 a0_11 a0_12 a0_13 a0_14 a0_15 a1).bind fun t185 => (if t185 = true then (some (IntKind.u64.wrap (2199023255553 + (IntKind.u64.wrap (a1))))) else (some 0))
theorem plan_Plan_Node.mono : ∀ a0 a1 a2 a3 a4 a5 a6 a7 a8 a9 a10 a11 a12 a13 a14 a15 a16 k, LeO (plan_Plan_Node.f k a0 a1 a2 a3 a4 a5 a6 a7 a8 a9 a10 a11 a12 a13 a14 a15 a16) (plan_Plan_Node.f (k + 1) a0 a1 a2 a3 a4 a5 a6 a7 a8 a9 a10 a11 a12 a13 a14 a15 a16) := by
  intro a0 a1 a2 a3 a4 a5 a6 a7 a8 a9 a10 a11 a12 a13 a14 a15 a16 k
  unfold plan_Plan_Node.f
  repeat' first
      | (with_reducible exact plan_Plan_has.mono _ _ _ _ _ _ _ _ _ _ _ _ _ _ _ _ _ _)
      | (with_reducible exact LeO.refl _)
      | (with_reducible exact LeO.none _)
      | (with_reducible refine LeO.ite ?_ ?_)
      | (with_reducible refine LeO.bind ?_ (fun _ => ?_))
      | exact plan_Plan_has.mono _ _ _ _ _ _ _ _ _ _ _ _ _ _ _ _ _ _
      | exact LeO.none _
      | refine LeO.ite ?_ ?_
      | refine LeO.bind ?_ (fun _ => ?_)
set_option maxHeartbeats 8000000 in
set_option maxRecDepth 100000 in
theorem plan_Plan_Node.calls (k : Nat) (a0_0 : Int) (a0_1 : Int) (a0_2 : Int) (a0_3 : Int) (a0_4 : Int) (a0_5 : Int) (a0_6 : Int) (a0_7 : Int) (a0_8 : Int) (a0_9 : Int) (a0_10 : Int) (a0_11 : Int) (a0_12 : Int) (a0_13 : Int) (a0_14 : Int) (a0_15 : Bool) (a1 : Int) (r : Int) (w : World) (h : plan_Plan_Node.f k a0_0 a0_1 a0_2 a0_3 a0_4 a0_5 a0_6 a0_7 a0_8 a0_9 a0_10 a0_11 a0_12 a0_13 a0_14 a0_15 a1 = some r) :
    Calls Try.prog 13 #[.agg #[.int .i64 a0_0, .int .i64 a0_1, .int .u8 a0_2, .int .u16 a0_3, .int .u16 a0_4, .int .i64 a0_5, .int .i64 a0_6, .int .i64 a0_7, .int .i64 a0_8, .int .i64 a0_9, .int .i64 a0_10, .int .i64 a0_11, .int .i64 a0_12, .int .i64 a0_13, .int .i64 a0_14, .bool a0_15], .int .i64 a1] w fun e w' => e = .returned (.int .u64 r) ∧ Below w.heap.size w w' := by
  have hu24 := Try.underlying24
  have HB := Aside0.mk (Below.refl w.heap.size w)
  have H : ((plan_Plan_has.f k a0_0 a0_1 a0_2 a0_3 a0_4 a0_5 a0_6 a0_7 a0_8 a0_9 a0_10 a0_11 a0_12 a0_13 a0_14 a0_15 a1).bind fun t185 => (if t185 = true then (some (IntKind.u64.wrap (2199023255553 + (IntKind.u64.wrap (a1))))) else (some 0))) = some r := h
  clear h
  replace H := Option.bind_eq_some_iff.mp H
  obtain ⟨t185, A30, H⟩ := H
  replace H : (if t185 = true then (some (IntKind.u64.wrap (2199023255553 + (IntKind.u64.wrap (a1))))) else (some 0)) = some r := H
  have A3 := Aside0.mk A30
  clear A30
  by_cases c4 : t185 = true
  · subst c4
    have H1 : (some (IntKind.u64.wrap (2199023255553 + (IntKind.u64.wrap (a1))))) = some r := by rw [if_pos rfl] at H; exact H
    clear H
    have H := H1
    clear H1
    obtain rfl := Option.some.inj H
    go_enter Try.func13, Try.ntmps13
    go_wp2_with (first | ((with_reducible refine gate_dst (N := 2) rfl ?_); refine box_event ?hg (N := 2) ?hd (cs := #[.int .i64 a0_0, .int .i64 a0_1, .int .u8 a0_2, .int .u16 a0_3, .int .u16 a0_4, .int .i64 a0_5, .int .i64 a0_6, .int .i64 a0_7, .int .i64 a0_8, .int .i64 a0_9, .int .i64 a0_10, .int .i64 a0_11, .int .i64 a0_12, .int .i64 a0_13, .int .i64 a0_14, .bool a0_15]) (t := 24) ?hr ?_; (case hd => rfl); (case hg => rfl); (case hr => first | (go_simp; done) | (go_simp; rfl)); intro gb184 hg w5 hbox hb; have n0_ := Aside0.mk (below_step (by repeat (first | (with_reducible first | exact HB.out | apply below_alloc | apply pw_below_drewN | apply below_drew1) | exact HB.out)) hb); have n1_ := Aside0.mk (hbox); have n2_ := Aside0.mk ((by rw [hg]; exact (below_size (by repeat (first | (with_reducible first | exact HB.out | apply below_alloc | apply pw_below_drewN | apply below_drew1) | exact HB.out))) : w.heap.size ≤ gb184)); have n3_ := Aside0.mk ((by rw [hg]; exact (below_size (by repeat (first | (with_reducible first | exact HB.out | apply below_alloc | apply pw_below_drewN | apply below_drew1) | exact HB.out))) : w.heap.size ≤ gb184)); clear HB; have HB := n0_; have BK184 := n1_; have GW184 := n2_; have GE184 := n3_; clear n0_ n1_ n2_ n3_; clear hb hbox hg; have hcz6_0 : w5.cell? ⟨gb184, 0, none⟩ = some (.int .i64 a0_0) := (blk_cell BK184.out 0).trans rfl; have hcz6_1 : w5.cell? ⟨gb184, 1, none⟩ = some (.int .i64 a0_1) := (blk_cell BK184.out 1).trans rfl; have hcz6_2 : w5.cell? ⟨gb184, 2, none⟩ = some (.int .u8 a0_2) := (blk_cell BK184.out 2).trans rfl; have hcz6_3 : w5.cell? ⟨gb184, 3, none⟩ = some (.int .u16 a0_3) := (blk_cell BK184.out 3).trans rfl; have hcz6_4 : w5.cell? ⟨gb184, 4, none⟩ = some (.int .u16 a0_4) := (blk_cell BK184.out 4).trans rfl; have hcz6_5 : w5.cell? ⟨gb184, 5, none⟩ = some (.int .i64 a0_5) := (blk_cell BK184.out 5).trans rfl; have hcz6_6 : w5.cell? ⟨gb184, 6, none⟩ = some (.int .i64 a0_6) := (blk_cell BK184.out 6).trans rfl; have hcz6_7 : w5.cell? ⟨gb184, 7, none⟩ = some (.int .i64 a0_7) := (blk_cell BK184.out 7).trans rfl; have hcz6_8 : w5.cell? ⟨gb184, 8, none⟩ = some (.int .i64 a0_8) := (blk_cell BK184.out 8).trans rfl; have hcz6_9 : w5.cell? ⟨gb184, 9, none⟩ = some (.int .i64 a0_9) := (blk_cell BK184.out 9).trans rfl; have hcz6_10 : w5.cell? ⟨gb184, 10, none⟩ = some (.int .i64 a0_10) := (blk_cell BK184.out 10).trans rfl; have hcz6_11 : w5.cell? ⟨gb184, 11, none⟩ = some (.int .i64 a0_11) := (blk_cell BK184.out 11).trans rfl; have hcz6_12 : w5.cell? ⟨gb184, 12, none⟩ = some (.int .i64 a0_12) := (blk_cell BK184.out 12).trans rfl; have hcz6_13 : w5.cell? ⟨gb184, 13, none⟩ = some (.int .i64 a0_13) := (blk_cell BK184.out 13).trans rfl; have hcz6_14 : w5.cell? ⟨gb184, 14, none⟩ = some (.int .i64 a0_14) := (blk_cell BK184.out 14).trans rfl; have hcz6_15 : w5.cell? ⟨gb184, 15, none⟩ = some (.bool a0_15) := (blk_cell BK184.out 15).trans rfl; have hfz6_0 := blk_frozen BK184.out 0; have hfz6_1 := blk_frozen BK184.out 1; have hfz6_2 := blk_frozen BK184.out 2; have hfz6_3 := blk_frozen BK184.out 3; have hfz6_4 := blk_frozen BK184.out 4; have hfz6_5 := blk_frozen BK184.out 5; have hfz6_6 := blk_frozen BK184.out 6; have hfz6_7 := blk_frozen BK184.out 7; have hfz6_8 := blk_frozen BK184.out 8; have hfz6_9 := blk_frozen BK184.out 9; have hfz6_10 := blk_frozen BK184.out 10; have hfz6_11 := blk_frozen BK184.out 11; have hfz6_12 := blk_frozen BK184.out 12; have hfz6_13 := blk_frozen BK184.out 13; have hfz6_14 := blk_frozen BK184.out 14; have hfz6_15 := blk_frozen BK184.out 15) | ((with_reducible refine gate_callee (f := 33) rfl ?_); refine goesL_ (some 7) rfl rfl Try.func33 (by kernel_rfl) rfl #[.agg #[.int .i64 a0_0, .int .i64 a0_1, .int .u8 a0_2, .int .u16 a0_3, .int .u16 a0_4, .int .i64 a0_5, .int .i64 a0_6, .int .i64 a0_7, .int .i64 a0_8, .int .i64 a0_9, .int .i64 a0_10, .int .i64 a0_11, .int .i64 a0_12, .int .i64 a0_13, .int .i64 a0_14, .bool a0_15], .int .i64 a1] rfl (by (try simp only [List.map_toArray, List.map_cons, List.map_nil]); first | done | rfl | (simp only [List.length_drop, List.length_take]; rfl)) ?_; (with_reducible refine (plan_Plan_has.calls k a0_0 a0_1 a0_2 a0_3 a0_4 a0_5 a0_6 a0_7 a0_8 a0_9 a0_10 a0_11 a0_12 a0_13 a0_14 a0_15 a1 true _ A3.out).mono ?_); rintro e w7 ⟨rfl, hb⟩; refine ⟨_, rfl, ?_⟩; have n0_ := Aside0.mk (blk_below (g := gb184) (o := .cells #[.int .i64 a0_0, .int .i64 a0_1, .int .u8 a0_2, .int .u16 a0_3, .int .u16 a0_4, .int .i64 a0_5, .int .i64 a0_6, .int .i64 a0_7, .int .i64 a0_8, .int .i64 a0_9, .int .i64 a0_10, .int .i64 a0_11, .int .i64 a0_12, .int .i64 a0_13, .int .i64 a0_14, .bool a0_15] 24 (0, 0)) (by (with_reducible repeat (first | refine blk_drewN ?_ _ | refine blk_drew ?_ | refine blk_alloc ?_ _)); exact BK184.out) hb); have n1_ := Aside0.mk (below_step (by repeat (first | (with_reducible first | exact HB.out | apply below_alloc | apply pw_below_drewN | apply below_drew1 | refine below_set ?_ GE184.out) | exact HB.out)) hb); clear BK184; clear HB; have BK184 := n0_; have HB := n1_; clear n0_ n1_; (try clear hb); (try clear hb2); (try clear hk); (try clear hi)))
    go_ret
    exact ⟨by first | rfl | (simp [errW_none, errW_some] <;> rfl) | (simp [*, errW_none, errW_some] <;> rfl), by repeat (first | (with_reducible first | exact HB.out | apply below_alloc | apply pw_below_drewN | apply below_drew1 | refine below_set ?_ GE184.out) | exact HB.out)⟩
  · replace c4 := Bool.eq_false_iff.mpr c4
    subst c4
    have H1 : (some 0) = some r := by rw [if_neg (show ¬ (false = true) by decide)] at H; exact H
    clear H
    have H := H1
    clear H1
    obtain rfl := Option.some.inj H
    go_enter Try.func13, Try.ntmps13
    go_wp2_with (first | ((with_reducible refine gate_dst (N := 2) rfl ?_); refine box_event ?hg (N := 2) ?hd (cs := #[.int .i64 a0_0, .int .i64 a0_1, .int .u8 a0_2, .int .u16 a0_3, .int .u16 a0_4, .int .i64 a0_5, .int .i64 a0_6, .int .i64 a0_7, .int .i64 a0_8, .int .i64 a0_9, .int .i64 a0_10, .int .i64 a0_11, .int .i64 a0_12, .int .i64 a0_13, .int .i64 a0_14, .bool a0_15]) (t := 24) ?hr ?_; (case hd => rfl); (case hg => rfl); (case hr => first | (go_simp; done) | (go_simp; rfl)); intro gb184 hg w8 hbox hb; have n0_ := Aside0.mk (below_step (by repeat (first | (with_reducible first | exact HB.out | apply below_alloc | apply pw_below_drewN | apply below_drew1) | exact HB.out)) hb); have n1_ := Aside0.mk (hbox); have n2_ := Aside0.mk ((by rw [hg]; exact (below_size (by repeat (first | (with_reducible first | exact HB.out | apply below_alloc | apply pw_below_drewN | apply below_drew1) | exact HB.out))) : w.heap.size ≤ gb184)); have n3_ := Aside0.mk ((by rw [hg]; exact (below_size (by repeat (first | (with_reducible first | exact HB.out | apply below_alloc | apply pw_below_drewN | apply below_drew1) | exact HB.out))) : w.heap.size ≤ gb184)); clear HB; have HB := n0_; have BK184 := n1_; have GW184 := n2_; have GE184 := n3_; clear n0_ n1_ n2_ n3_; clear hb hbox hg; have hcz9_0 : w8.cell? ⟨gb184, 0, none⟩ = some (.int .i64 a0_0) := (blk_cell BK184.out 0).trans rfl; have hcz9_1 : w8.cell? ⟨gb184, 1, none⟩ = some (.int .i64 a0_1) := (blk_cell BK184.out 1).trans rfl; have hcz9_2 : w8.cell? ⟨gb184, 2, none⟩ = some (.int .u8 a0_2) := (blk_cell BK184.out 2).trans rfl; have hcz9_3 : w8.cell? ⟨gb184, 3, none⟩ = some (.int .u16 a0_3) := (blk_cell BK184.out 3).trans rfl; have hcz9_4 : w8.cell? ⟨gb184, 4, none⟩ = some (.int .u16 a0_4) := (blk_cell BK184.out 4).trans rfl; have hcz9_5 : w8.cell? ⟨gb184, 5, none⟩ = some (.int .i64 a0_5) := (blk_cell BK184.out 5).trans rfl; have hcz9_6 : w8.cell? ⟨gb184, 6, none⟩ = some (.int .i64 a0_6) := (blk_cell BK184.out 6).trans rfl; have hcz9_7 : w8.cell? ⟨gb184, 7, none⟩ = some (.int .i64 a0_7) := (blk_cell BK184.out 7).trans rfl; have hcz9_8 : w8.cell? ⟨gb184, 8, none⟩ = some (.int .i64 a0_8) := (blk_cell BK184.out 8).trans rfl; have hcz9_9 : w8.cell? ⟨gb184, 9, none⟩ = some (.int .i64 a0_9) := (blk_cell BK184.out 9).trans rfl; have hcz9_10 : w8.cell? ⟨gb184, 10, none⟩ = some (.int .i64 a0_10) := (blk_cell BK184.out 10).trans rfl; have hcz9_11 : w8.cell? ⟨gb184, 11, none⟩ = some (.int .i64 a0_11) := (blk_cell BK184.out 11).trans rfl; have hcz9_12 : w8.cell? ⟨gb184, 12, none⟩ = some (.int .i64 a0_12) := (blk_cell BK184.out 12).trans rfl; have hcz9_13 : w8.cell? ⟨gb184, 13, none⟩ = some (.int .i64 a0_13) := (blk_cell BK184.out 13).trans rfl; have hcz9_14 : w8.cell? ⟨gb184, 14, none⟩ = some (.int .i64 a0_14) := (blk_cell BK184.out 14).trans rfl; have hcz9_15 : w8.cell? ⟨gb184, 15, none⟩ = some (.bool a0_15) := (blk_cell BK184.out 15).trans rfl; have hfz9_0 := blk_frozen BK184.out 0; have hfz9_1 := blk_frozen BK184.out 1; have hfz9_2 := blk_frozen BK184.out 2; have hfz9_3 := blk_frozen BK184.out 3; have hfz9_4 := blk_frozen BK184.out 4; have hfz9_5 := blk_frozen BK184.out 5; have hfz9_6 := blk_frozen BK184.out 6; have hfz9_7 := blk_frozen BK184.out 7; have hfz9_8 := blk_frozen BK184.out 8; have hfz9_9 := blk_frozen BK184.out 9; have hfz9_10 := blk_frozen BK184.out 10; have hfz9_11 := blk_frozen BK184.out 11; have hfz9_12 := blk_frozen BK184.out 12; have hfz9_13 := blk_frozen BK184.out 13; have hfz9_14 := blk_frozen BK184.out 14; have hfz9_15 := blk_frozen BK184.out 15) | ((with_reducible refine gate_callee (f := 33) rfl ?_); refine goesL_ (some 7) rfl rfl Try.func33 (by kernel_rfl) rfl #[.agg #[.int .i64 a0_0, .int .i64 a0_1, .int .u8 a0_2, .int .u16 a0_3, .int .u16 a0_4, .int .i64 a0_5, .int .i64 a0_6, .int .i64 a0_7, .int .i64 a0_8, .int .i64 a0_9, .int .i64 a0_10, .int .i64 a0_11, .int .i64 a0_12, .int .i64 a0_13, .int .i64 a0_14, .bool a0_15], .int .i64 a1] rfl (by (try simp only [List.map_toArray, List.map_cons, List.map_nil]); first | done | rfl | (simp only [List.length_drop, List.length_take]; rfl)) ?_; (with_reducible refine (plan_Plan_has.calls k a0_0 a0_1 a0_2 a0_3 a0_4 a0_5 a0_6 a0_7 a0_8 a0_9 a0_10 a0_11 a0_12 a0_13 a0_14 a0_15 a1 false _ A3.out).mono ?_); rintro e w10 ⟨rfl, hb⟩; refine ⟨_, rfl, ?_⟩; have n0_ := Aside0.mk (blk_below (g := gb184) (o := .cells #[.int .i64 a0_0, .int .i64 a0_1, .int .u8 a0_2, .int .u16 a0_3, .int .u16 a0_4, .int .i64 a0_5, .int .i64 a0_6, .int .i64 a0_7, .int .i64 a0_8, .int .i64 a0_9, .int .i64 a0_10, .int .i64 a0_11, .int .i64 a0_12, .int .i64 a0_13, .int .i64 a0_14, .bool a0_15] 24 (0, 0)) (by (with_reducible repeat (first | refine blk_drewN ?_ _ | refine blk_drew ?_ | refine blk_alloc ?_ _)); exact BK184.out) hb); have n1_ := Aside0.mk (below_step (by repeat (first | (with_reducible first | exact HB.out | apply below_alloc | apply pw_below_drewN | apply below_drew1 | refine below_set ?_ GE184.out) | exact HB.out)) hb); clear BK184; clear HB; have BK184 := n0_; have HB := n1_; clear n0_ n1_; (try clear hb); (try clear hb2); (try clear hk); (try clear hi)))
    go_ret
    exact ⟨by first | rfl | (simp [errW_none, errW_some] <;> rfl) | (simp [*, errW_none, errW_some] <;> rfl), by repeat (first | (with_reducible first | exact HB.out | apply below_alloc | apply pw_below_drewN | apply below_drew1 | refine below_set ?_ GE184.out) | exact HB.out)⟩

/-! ### plan_Plan_Host: function 15 -/
def plan_Plan_Host.f (k : Nat) (a0_0 : Int) (a0_1 : Int) (a0_2 : Int) (a0_3 : Int) (a0_4 : Int) (a0_5 : Int) (a0_6 : Int) (a0_7 : Int) (a0_8 : Int) (a0_9 : Int) (a0_10 : Int) (a0_11 : Int) (a0_12 : Int) (a0_13 : Int) (a0_14 : Int) (a0_15 : Bool) (a1 : Int) : Option (Int) := (plan_Plan_has.f k a0_0 a0_1 a0_2 a0_3 a0_4 a0_5 a0_6 a0_7 a0_8 a0_9 a0_10 a0_11 a0_12 a0_13 a0_14 a0_15 a1).bind fun t187 => (if t187 = true then (some (IntKind.u64.wrap (6597069766657 + (IntKind.u64.wrap (a1))))) else (some 0))
theorem plan_Plan_Host.mono : ∀ a0 a1 a2 a3 a4 a5 a6 a7 a8 a9 a10 a11 a12 a13 a14 a15 a16 k, LeO (plan_Plan_Host.f k a0 a1 a2 a3 a4 a5 a6 a7 a8 a9 a10 a11 a12 a13 a14 a15 a16) (plan_Plan_Host.f (k + 1) a0 a1 a2 a3 a4 a5 a6 a7 a8 a9 a10 a11 a12 a13 a14 a15 a16) := by
  intro a0 a1 a2 a3 a4 a5 a6 a7 a8 a9 a10 a11 a12 a13 a14 a15 a16 k
  unfold plan_Plan_Host.f
  repeat' first
      | (with_reducible exact plan_Plan_has.mono _ _ _ _ _ _ _ _ _ _ _ _ _ _ _ _ _ _)
      | (with_reducible exact LeO.refl _)
      | (with_reducible exact LeO.none _)
      | (with_reducible refine LeO.ite ?_ ?_)
      | (with_reducible refine LeO.bind ?_ (fun _ => ?_))
      | exact plan_Plan_has.mono _ _ _ _ _ _ _ _ _ _ _ _ _ _ _ _ _ _
      | exact LeO.none _
      | refine LeO.ite ?_ ?_
      | refine LeO.bind ?_ (fun _ => ?_)
set_option maxHeartbeats 8000000 in
set_option maxRecDepth 100000 in
theorem plan_Plan_Host.calls (k : Nat) (a0_0 : Int) (a0_1 : Int) (a0_2 : Int) (a0_3 : Int) (a0_4 : Int) (a0_5 : Int) (a0_6 : Int) (a0_7 : Int) (a0_8 : Int) (a0_9 : Int) (a0_10 : Int) (a0_11 : Int) (a0_12 : Int) (a0_13 : Int) (a0_14 : Int) (a0_15 : Bool) (a1 : Int) (r : Int) (w : World) (h : plan_Plan_Host.f k a0_0 a0_1 a0_2 a0_3 a0_4 a0_5 a0_6 a0_7 a0_8 a0_9 a0_10 a0_11 a0_12 a0_13 a0_14 a0_15 a1 = some r) :
    Calls Try.prog 15 #[.agg #[.int .i64 a0_0, .int .i64 a0_1, .int .u8 a0_2, .int .u16 a0_3, .int .u16 a0_4, .int .i64 a0_5, .int .i64 a0_6, .int .i64 a0_7, .int .i64 a0_8, .int .i64 a0_9, .int .i64 a0_10, .int .i64 a0_11, .int .i64 a0_12, .int .i64 a0_13, .int .i64 a0_14, .bool a0_15], .int .i64 a1] w fun e w' => e = .returned (.int .u64 r) ∧ Below w.heap.size w w' := by
  have hu24 := Try.underlying24
  have HB := Aside0.mk (Below.refl w.heap.size w)
  have H : ((plan_Plan_has.f k a0_0 a0_1 a0_2 a0_3 a0_4 a0_5 a0_6 a0_7 a0_8 a0_9 a0_10 a0_11 a0_12 a0_13 a0_14 a0_15 a1).bind fun t187 => (if t187 = true then (some (IntKind.u64.wrap (6597069766657 + (IntKind.u64.wrap (a1))))) else (some 0))) = some r := h
  clear h
  replace H := Option.bind_eq_some_iff.mp H
  obtain ⟨t187, A30, H⟩ := H
  replace H : (if t187 = true then (some (IntKind.u64.wrap (6597069766657 + (IntKind.u64.wrap (a1))))) else (some 0)) = some r := H
  have A3 := Aside0.mk A30
  clear A30
  by_cases c4 : t187 = true
  · subst c4
    have H1 : (some (IntKind.u64.wrap (6597069766657 + (IntKind.u64.wrap (a1))))) = some r := by rw [if_pos rfl] at H; exact H
    clear H
    have H := H1
    clear H1
    obtain rfl := Option.some.inj H
    go_enter Try.func15, Try.ntmps15
    go_wp2_with (first | ((with_reducible refine gate_dst (N := 2) rfl ?_); refine box_event ?hg (N := 2) ?hd (cs := #[.int .i64 a0_0, .int .i64 a0_1, .int .u8 a0_2, .int .u16 a0_3, .int .u16 a0_4, .int .i64 a0_5, .int .i64 a0_6, .int .i64 a0_7, .int .i64 a0_8, .int .i64 a0_9, .int .i64 a0_10, .int .i64 a0_11, .int .i64 a0_12, .int .i64 a0_13, .int .i64 a0_14, .bool a0_15]) (t := 24) ?hr ?_; (case hd => rfl); (case hg => rfl); (case hr => first | (go_simp; done) | (go_simp; rfl)); intro gb186 hg w5 hbox hb; have n0_ := Aside0.mk (below_step (by repeat (first | (with_reducible first | exact HB.out | apply below_alloc | apply pw_below_drewN | apply below_drew1) | exact HB.out)) hb); have n1_ := Aside0.mk (hbox); have n2_ := Aside0.mk ((by rw [hg]; exact (below_size (by repeat (first | (with_reducible first | exact HB.out | apply below_alloc | apply pw_below_drewN | apply below_drew1) | exact HB.out))) : w.heap.size ≤ gb186)); have n3_ := Aside0.mk ((by rw [hg]; exact (below_size (by repeat (first | (with_reducible first | exact HB.out | apply below_alloc | apply pw_below_drewN | apply below_drew1) | exact HB.out))) : w.heap.size ≤ gb186)); clear HB; have HB := n0_; have BK186 := n1_; have GW186 := n2_; have GE186 := n3_; clear n0_ n1_ n2_ n3_; clear hb hbox hg; have hcz6_0 : w5.cell? ⟨gb186, 0, none⟩ = some (.int .i64 a0_0) := (blk_cell BK186.out 0).trans rfl; have hcz6_1 : w5.cell? ⟨gb186, 1, none⟩ = some (.int .i64 a0_1) := (blk_cell BK186.out 1).trans rfl; have hcz6_2 : w5.cell? ⟨gb186, 2, none⟩ = some (.int .u8 a0_2) := (blk_cell BK186.out 2).trans rfl; have hcz6_3 : w5.cell? ⟨gb186, 3, none⟩ = some (.int .u16 a0_3) := (blk_cell BK186.out 3).trans rfl; have hcz6_4 : w5.cell? ⟨gb186, 4, none⟩ = some (.int .u16 a0_4) := (blk_cell BK186.out 4).trans rfl; have hcz6_5 : w5.cell? ⟨gb186, 5, none⟩ = some (.int .i64 a0_5) := (blk_cell BK186.out 5).trans rfl; have hcz6_6 : w5.cell? ⟨gb186, 6, none⟩ = some (.int .i64 a0_6) := (blk_cell BK186.out 6).trans rfl; have hcz6_7 : w5.cell? ⟨gb186, 7, none⟩ = some (.int .i64 a0_7) := (blk_cell BK186.out 7).trans rfl; have hcz6_8 : w5.cell? ⟨gb186, 8, none⟩ = some (.int .i64 a0_8) := (blk_cell BK186.out 8).trans rfl; have hcz6_9 : w5.cell? ⟨gb186, 9, none⟩ = some (.int .i64 a0_9) := (blk_cell BK186.out 9).trans rfl; have hcz6_10 : w5.cell? ⟨gb186, 10, none⟩ = some (.int .i64 a0_10) := (blk_cell BK186.out 10).trans rfl; have hcz6_11 : w5.cell? ⟨gb186, 11, none⟩ = some (.int .i64 a0_11) := (blk_cell BK186.out 11).trans rfl; have hcz6_12 : w5.cell? ⟨gb186, 12, none⟩ = some (.int .i64 a0_12) := (blk_cell BK186.out 12).trans rfl; have hcz6_13 : w5.cell? ⟨gb186, 13, none⟩ = some (.int .i64 a0_13) := (blk_cell BK186.out 13).trans rfl; have hcz6_14 : w5.cell? ⟨gb186, 14, none⟩ = some (.int .i64 a0_14) := (blk_cell BK186.out 14).trans rfl; have hcz6_15 : w5.cell? ⟨gb186, 15, none⟩ = some (.bool a0_15) := (blk_cell BK186.out 15).trans rfl; have hfz6_0 := blk_frozen BK186.out 0; have hfz6_1 := blk_frozen BK186.out 1; have hfz6_2 := blk_frozen BK186.out 2; have hfz6_3 := blk_frozen BK186.out 3; have hfz6_4 := blk_frozen BK186.out 4; have hfz6_5 := blk_frozen BK186.out 5; have hfz6_6 := blk_frozen BK186.out 6; have hfz6_7 := blk_frozen BK186.out 7; have hfz6_8 := blk_frozen BK186.out 8; have hfz6_9 := blk_frozen BK186.out 9; have hfz6_10 := blk_frozen BK186.out 10; have hfz6_11 := blk_frozen BK186.out 11; have hfz6_12 := blk_frozen BK186.out 12; have hfz6_13 := blk_frozen BK186.out 13; have hfz6_14 := blk_frozen BK186.out 14; have hfz6_15 := blk_frozen BK186.out 15) | ((with_reducible refine gate_callee (f := 33) rfl ?_); refine goesL_ (some 7) rfl rfl Try.func33 (by kernel_rfl) rfl #[.agg #[.int .i64 a0_0, .int .i64 a0_1, .int .u8 a0_2, .int .u16 a0_3, .int .u16 a0_4, .int .i64 a0_5, .int .i64 a0_6, .int .i64 a0_7, .int .i64 a0_8, .int .i64 a0_9, .int .i64 a0_10, .int .i64 a0_11, .int .i64 a0_12, .int .i64 a0_13, .int .i64 a0_14, .bool a0_15], .int .i64 a1] rfl (by (try simp only [List.map_toArray, List.map_cons, List.map_nil]); first | done | rfl | (simp only [List.length_drop, List.length_take]; rfl)) ?_; (with_reducible refine (plan_Plan_has.calls k a0_0 a0_1 a0_2 a0_3 a0_4 a0_5 a0_6 a0_7 a0_8 a0_9 a0_10 a0_11 a0_12 a0_13 a0_14 a0_15 a1 true _ A3.out).mono ?_); rintro e w7 ⟨rfl, hb⟩; refine ⟨_, rfl, ?_⟩; have n0_ := Aside0.mk (blk_below (g := gb186) (o := .cells #[.int .i64 a0_0, .int .i64 a0_1, .int .u8 a0_2, .int .u16 a0_3, .int .u16 a0_4, .int .i64 a0_5, .int .i64 a0_6, .int .i64 a0_7, .int .i64 a0_8, .int .i64 a0_9, .int .i64 a0_10, .int .i64 a0_11, .int .i64 a0_12, .int .i64 a0_13, .int .i64 a0_14, .bool a0_15] 24 (0, 0)) (by (with_reducible repeat (first | refine blk_drewN ?_ _ | refine blk_drew ?_ | refine blk_alloc ?_ _)); exact BK186.out) hb); have n1_ := Aside0.mk (below_step (by repeat (first | (with_reducible first | exact HB.out | apply below_alloc | apply pw_below_drewN | apply below_drew1 | refine below_set ?_ GE186.out) | exact HB.out)) hb); clear BK186; clear HB; have BK186 := n0_; have HB := n1_; clear n0_ n1_; (try clear hb); (try clear hb2); (try clear hk); (try clear hi)))
    go_ret
    exact ⟨by first | rfl | (simp [errW_none, errW_some] <;> rfl) | (simp [*, errW_none, errW_some] <;> rfl), by repeat (first | (with_reducible first | exact HB.out | apply below_alloc | apply pw_below_drewN | apply below_drew1 | refine below_set ?_ GE186.out) | exact HB.out)⟩
  · replace c4 := Bool.eq_false_iff.mpr c4
    subst c4
    have H1 : (some 0) = some r := by rw [if_neg (show ¬ (false = true) by decide)] at H; exact H
    clear H
    have H := H1
    clear H1
    obtain rfl := Option.some.inj H
    go_enter Try.func15, Try.ntmps15
    go_wp2_with (first | ((with_reducible refine gate_dst (N := 2) rfl ?_); refine box_event ?hg (N := 2) ?hd (cs := #[.int .i64 a0_0, .int .i64 a0_1, .int .u8 a0_2, .int .u16 a0_3, .int .u16 a0_4, .int .i64 a0_5, .int .i64 a0_6, .int .i64 a0_7, .int .i64 a0_8, .int .i64 a0_9, .int .i64 a0_10, .int .i64 a0_11, .int .i64 a0_12, .int .i64 a0_13, .int .i64 a0_14, .bool a0_15]) (t := 24) ?hr ?_; (case hd => rfl); (case hg => rfl); (case hr => first | (go_simp; done) | (go_simp; rfl)); intro gb186 hg w8 hbox hb; have n0_ := Aside0.mk (below_step (by repeat (first | (with_reducible first | exact HB.out | apply below_alloc | apply pw_below_drewN | apply below_drew1) | exact HB.out)) hb); have n1_ := Aside0.mk (hbox); have n2_ := Aside0.mk ((by rw [hg]; exact (below_size (by repeat (first | (with_reducible first | exact HB.out | apply below_alloc | apply pw_below_drewN | apply below_drew1) | exact HB.out))) : w.heap.size ≤ gb186)); have n3_ := Aside0.mk ((by rw [hg]; exact (below_size (by repeat (first | (with_reducible first | exact HB.out | apply below_alloc | apply pw_below_drewN | apply below_drew1) | exact HB.out))) : w.heap.size ≤ gb186)); clear HB; have HB := n0_; have BK186 := n1_; have GW186 := n2_; have GE186 := n3_; clear n0_ n1_ n2_ n3_; clear hb hbox hg; have hcz9_0 : w8.cell? ⟨gb186, 0, none⟩ = some (.int .i64 a0_0) := (blk_cell BK186.out 0).trans rfl; have hcz9_1 : w8.cell? ⟨gb186, 1, none⟩ = some (.int .i64 a0_1) := (blk_cell BK186.out 1).trans rfl; have hcz9_2 : w8.cell? ⟨gb186, 2, none⟩ = some (.int .u8 a0_2) := (blk_cell BK186.out 2).trans rfl; have hcz9_3 : w8.cell? ⟨gb186, 3, none⟩ = some (.int .u16 a0_3) := (blk_cell BK186.out 3).trans rfl; have hcz9_4 : w8.cell? ⟨gb186, 4, none⟩ = some (.int .u16 a0_4) := (blk_cell BK186.out 4).trans rfl; have hcz9_5 : w8.cell? ⟨gb186, 5, none⟩ = some (.int .i64 a0_5) := (blk_cell BK186.out 5).trans rfl; have hcz9_6 : w8.cell? ⟨gb186, 6, none⟩ = some (.int .i64 a0_6) := (blk_cell BK186.out 6).trans rfl; have hcz9_7 : w8.cell? ⟨gb186, 7, none⟩ = some (.int .i64 a0_7) := (blk_cell BK186.out 7).trans rfl; have hcz9_8 : w8.cell? ⟨gb186, 8, none⟩ = some (.int .i64 a0_8) := (blk_cell BK186.out 8).trans rfl; have hcz9_9 : w8.cell? ⟨gb186, 9, none⟩ = some (.int .i64 a0_9) := (blk_cell BK186.out 9).trans rfl; have hcz9_10 : w8.cell? ⟨gb186, 10, none⟩ = some (.int .i64 a0_10) := (blk_cell BK186.out 10).trans rfl; have hcz9_11 : w8.cell? ⟨gb186, 11, none⟩ = some (.int .i64 a0_11) := (blk_cell BK186.out 11).trans rfl; have hcz9_12 : w8.cell? ⟨gb186, 12, none⟩ = some (.int .i64 a0_12) := (blk_cell BK186.out 12).trans rfl; have hcz9_13 : w8.cell? ⟨gb186, 13, none⟩ = some (.int .i64 a0_13) := (blk_cell BK186.out 13).trans rfl; have hcz9_14 : w8.cell? ⟨gb186, 14, none⟩ = some (.int .i64 a0_14) := (blk_cell BK186.out 14).trans rfl; have hcz9_15 : w8.cell? ⟨gb186, 15, none⟩ = some (.bool a0_15) := (blk_cell BK186.out 15).trans rfl; have hfz9_0 := blk_frozen BK186.out 0; have hfz9_1 := blk_frozen BK186.out 1; have hfz9_2 := blk_frozen BK186.out 2; have hfz9_3 := blk_frozen BK186.out 3; have hfz9_4 := blk_frozen BK186.out 4; have hfz9_5 := blk_frozen BK186.out 5; have hfz9_6 := blk_frozen BK186.out 6; have hfz9_7 := blk_frozen BK186.out 7; have hfz9_8 := blk_frozen BK186.out 8; have hfz9_9 := blk_frozen BK186.out 9; have hfz9_10 := blk_frozen BK186.out 10; have hfz9_11 := blk_frozen BK186.out 11; have hfz9_12 := blk_frozen BK186.out 12; have hfz9_13 := blk_frozen BK186.out 13; have hfz9_14 := blk_frozen BK186.out 14; have hfz9_15 := blk_frozen BK186.out 15) | ((with_reducible refine gate_callee (f := 33) rfl ?_); refine goesL_ (some 7) rfl rfl Try.func33 (by kernel_rfl) rfl #[.agg #[.int .i64 a0_0, .int .i64 a0_1, .int .u8 a0_2, .int .u16 a0_3, .int .u16 a0_4, .int .i64 a0_5, .int .i64 a0_6, .int .i64 a0_7, .int .i64 a0_8, .int .i64 a0_9, .int .i64 a0_10, .int .i64 a0_11, .int .i64 a0_12, .int .i64 a0_13, .int .i64 a0_14, .bool a0_15], .int .i64 a1] rfl (by (try simp only [List.map_toArray, List.map_cons, List.map_nil]); first | done | rfl | (simp only [List.length_drop, List.length_take]; rfl)) ?_; (with_reducible refine (plan_Plan_has.calls k a0_0 a0_1 a0_2 a0_3 a0_4 a0_5 a0_6 a0_7 a0_8 a0_9 a0_10 a0_11 a0_12 a0_13 a0_14 a0_15 a1 false _ A3.out).mono ?_); rintro e w10 ⟨rfl, hb⟩; refine ⟨_, rfl, ?_⟩; have n0_ := Aside0.mk (blk_below (g := gb186) (o := .cells #[.int .i64 a0_0, .int .i64 a0_1, .int .u8 a0_2, .int .u16 a0_3, .int .u16 a0_4, .int .i64 a0_5, .int .i64 a0_6, .int .i64 a0_7, .int .i64 a0_8, .int .i64 a0_9, .int .i64 a0_10, .int .i64 a0_11, .int .i64 a0_12, .int .i64 a0_13, .int .i64 a0_14, .bool a0_15] 24 (0, 0)) (by (with_reducible repeat (first | refine blk_drewN ?_ _ | refine blk_drew ?_ | refine blk_alloc ?_ _)); exact BK186.out) hb); have n1_ := Aside0.mk (below_step (by repeat (first | (with_reducible first | exact HB.out | apply below_alloc | apply pw_below_drewN | apply below_drew1 | refine below_set ?_ GE186.out) | exact HB.out)) hb); clear BK186; clear HB; have BK186 := n0_; have HB := n1_; clear n0_ n1_; (try clear hb); (try clear hb2); (try clear hk); (try clear hi)))
    go_ret
    exact ⟨by first | rfl | (simp [errW_none, errW_some] <;> rfl) | (simp [*, errW_none, errW_some] <;> rfl), by repeat (first | (with_reducible first | exact HB.out | apply below_alloc | apply pw_below_drewN | apply below_drew1 | refine below_set ?_ GE186.out) | exact HB.out)⟩

/-! ### plan_Plan_End: function 17 -/
def plan_Plan_End.j0 : Nat → Int → Int → Bool → Option (Int)
  | 0, _, _, _ => none
  | k + 1, x1, x2, x18 => if x18 = true then (some 0) else (some (IntKind.u16.wrap (wrap64 ((wrap64 ((wrap64 (2 * x1)) + x2)) + 1))))
def plan_Plan_End.f (k : Nat) (a0_0 : Int) (a0_1 : Int) (a0_2 : Int) (a0_3 : Int) (a0_4 : Int) (a0_5 : Int) (a0_6 : Int) (a0_7 : Int) (a0_8 : Int) (a0_9 : Int) (a0_10 : Int) (a0_11 : Int) (a0_12 : Int) (a0_13 : Int) (a0_14 : Int) (a0_15 : Bool) (a1 : Int) (a2 : Int) : Option (Int) := (plan_Plan_has.f k a0_0 a0_1 a0_2 a0_3 a0_4 a0_5 a0_6 a0_7 a0_8 a0_9 a0_10 a0_11 a0_12 a0_13 a0_14 a0_15 a1).bind fun t189 => (if t189 = true then (if a2 = 0 then (plan_Plan_End.j0 k a1 a2 false) else (plan_Plan_End.j0 k a1 a2 (a2 != 1))) else (plan_Plan_End.j0 k a1 a2 true))
theorem plan_Plan_End.mono_l : ∀ k, (∀ y0 y1 y2, LeO (plan_Plan_End.j0 k y0 y1 y2) (plan_Plan_End.j0 (k + 1) y0 y1 y2))
  | 0 => fun _ _ _ r h => by simp [plan_Plan_End.j0] at h
  | k + 1 => by
    have ih0 := plan_Plan_End.mono_l k
    · intro y0 y1 y2
      unfold plan_Plan_End.j0
      repeat' first
      | (with_reducible exact ih0 _ _ _)
      | (with_reducible exact plan_Plan_has.mono _ _ _ _ _ _ _ _ _ _ _ _ _ _ _ _ _ _)
      | (with_reducible exact LeO.refl _)
      | (with_reducible exact LeO.none _)
      | (with_reducible refine LeO.ite ?_ ?_)
      | (with_reducible refine LeO.bind ?_ (fun _ => ?_))
      | exact ih0 _ _ _
      | exact plan_Plan_has.mono _ _ _ _ _ _ _ _ _ _ _ _ _ _ _ _ _ _
      | exact LeO.none _
      | refine LeO.ite ?_ ?_
      | refine LeO.bind ?_ (fun _ => ?_)
theorem plan_Plan_End.mono : ∀ a0 a1 a2 a3 a4 a5 a6 a7 a8 a9 a10 a11 a12 a13 a14 a15 a16 a17 k, LeO (plan_Plan_End.f k a0 a1 a2 a3 a4 a5 a6 a7 a8 a9 a10 a11 a12 a13 a14 a15 a16 a17) (plan_Plan_End.f (k + 1) a0 a1 a2 a3 a4 a5 a6 a7 a8 a9 a10 a11 a12 a13 a14 a15 a16 a17) := by
  intro a0 a1 a2 a3 a4 a5 a6 a7 a8 a9 a10 a11 a12 a13 a14 a15 a16 a17 k
  have ih0 := plan_Plan_End.mono_l k
  unfold plan_Plan_End.f
  repeat' first
      | (with_reducible exact ih0 _ _ _)
      | (with_reducible exact plan_Plan_has.mono _ _ _ _ _ _ _ _ _ _ _ _ _ _ _ _ _ _)
      | (with_reducible exact LeO.refl _)
      | (with_reducible exact LeO.none _)
      | (with_reducible refine LeO.ite ?_ ?_)
      | (with_reducible refine LeO.bind ?_ (fun _ => ?_))
      | exact ih0 _ _ _
      | exact plan_Plan_has.mono _ _ _ _ _ _ _ _ _ _ _ _ _ _ _ _ _ _
      | exact LeO.none _
      | refine LeO.ite ?_ ?_
      | refine LeO.bind ?_ (fun _ => ?_)
set_option maxHeartbeats 8000000 in
set_option maxRecDepth 100000 in
theorem plan_Plan_End.calls (k : Nat) (a0_0 : Int) (a0_1 : Int) (a0_2 : Int) (a0_3 : Int) (a0_4 : Int) (a0_5 : Int) (a0_6 : Int) (a0_7 : Int) (a0_8 : Int) (a0_9 : Int) (a0_10 : Int) (a0_11 : Int) (a0_12 : Int) (a0_13 : Int) (a0_14 : Int) (a0_15 : Bool) (a1 : Int) (a2 : Int) (r : Int) (w : World) (h : plan_Plan_End.f k a0_0 a0_1 a0_2 a0_3 a0_4 a0_5 a0_6 a0_7 a0_8 a0_9 a0_10 a0_11 a0_12 a0_13 a0_14 a0_15 a1 a2 = some r) :
    Calls Try.prog 17 #[.agg #[.int .i64 a0_0, .int .i64 a0_1, .int .u8 a0_2, .int .u16 a0_3, .int .u16 a0_4, .int .i64 a0_5, .int .i64 a0_6, .int .i64 a0_7, .int .i64 a0_8, .int .i64 a0_9, .int .i64 a0_10, .int .i64 a0_11, .int .i64 a0_12, .int .i64 a0_13, .int .i64 a0_14, .bool a0_15], .int .i64 a1, .int .i64 a2] w fun e w' => e = .returned (.int .u16 r) ∧ Below w.heap.size w w' := by
  have hu24 := Try.underlying24
  have HB := Aside0.mk (Below.refl w.heap.size w)
  have H : ((plan_Plan_has.f k a0_0 a0_1 a0_2 a0_3 a0_4 a0_5 a0_6 a0_7 a0_8 a0_9 a0_10 a0_11 a0_12 a0_13 a0_14 a0_15 a1).bind fun t189 => (if t189 = true then (if a2 = 0 then (plan_Plan_End.j0 k a1 a2 false) else (plan_Plan_End.j0 k a1 a2 (a2 != 1))) else (plan_Plan_End.j0 k a1 a2 true))) = some r := h
  clear h
  have HC4 := Aside0.mk H
  clear H
  go_enter Try.func17, Try.ntmps17
  go_upto_region 1 with (first | ((with_reducible refine gate_dst (N := 3) rfl ?_); refine box_event ?hg (N := 3) ?hd (cs := #[.int .i64 a0_0, .int .i64 a0_1, .int .u8 a0_2, .int .u16 a0_3, .int .u16 a0_4, .int .i64 a0_5, .int .i64 a0_6, .int .i64 a0_7, .int .i64 a0_8, .int .i64 a0_9, .int .i64 a0_10, .int .i64 a0_11, .int .i64 a0_12, .int .i64 a0_13, .int .i64 a0_14, .bool a0_15]) (t := 24) ?hr ?_; (case hd => rfl); (case hg => rfl); (case hr => first | (go_simp; done) | (go_simp; rfl)); intro gb188 hg w5 hbox hb; have n0_ := Aside0.mk (below_step (by repeat (first | (with_reducible first | exact HB.out | apply below_alloc | apply pw_below_drewN | apply below_drew1) | exact HB.out)) hb); have n1_ := Aside0.mk (hbox); have n2_ := Aside0.mk ((by rw [hg]; exact (below_size (by repeat (first | (with_reducible first | exact HB.out | apply below_alloc | apply pw_below_drewN | apply below_drew1) | exact HB.out))) : w.heap.size ≤ gb188)); have n3_ := Aside0.mk ((by rw [hg]; exact (below_size (by repeat (first | (with_reducible first | exact HB.out | apply below_alloc | apply pw_below_drewN | apply below_drew1) | exact HB.out))) : w.heap.size ≤ gb188)); clear HB; have HB := n0_; have BK188 := n1_; have GW188 := n2_; have GE188 := n3_; clear n0_ n1_ n2_ n3_; clear hb hbox hg))
  (try simp only [Act.put, List.setIfInBounds_toArray, List.set_cons_zero, List.set_cons_succ])
  go_cut [18] (fun v18 wc => ∃ (kq : Nat) (x18_3 : Bool), v18 = .bool x18_3 ∧ Aside0 (plan_Plan_End.j0 kq a1 a2 x18_3 = some r) ∧ Aside0 (kq ≤ k) ∧ Aside0 (wc.heap[gb188]? = some (.cells #[.int .i64 a0_0, .int .i64 a0_1, .int .u8 a0_2, .int .u16 a0_3, .int .u16 a0_4, .int .i64 a0_5, .int .i64 a0_6, .int .i64 a0_7, .int .i64 a0_8, .int .i64 a0_9, .int .i64 a0_10, .int .i64 a0_11, .int .i64 a0_12, .int .i64 a0_13, .int .i64 a0_14, .bool a0_15] 24 (0, 0))) ∧ Aside0 (Below w.heap.size w wc))
  case first =>
    have H := HC4.out
    clear HC4
    replace H := Option.bind_eq_some_iff.mp H
    obtain ⟨t189, A60, H⟩ := H
    replace H : (if t189 = true then (if a2 = 0 then (plan_Plan_End.j0 k a1 a2 false) else (plan_Plan_End.j0 k a1 a2 (a2 != 1))) else (plan_Plan_End.j0 k a1 a2 true)) = some r := H
    have A6 := Aside0.mk A60
    clear A60
    by_cases c7 : t189 = true
    · subst c7
      have H1 : (if a2 = 0 then (plan_Plan_End.j0 k a1 a2 false) else (plan_Plan_End.j0 k a1 a2 (a2 != 1))) = some r := by rw [if_pos rfl] at H; exact H
      clear H
      have H := H1
      clear H1
      by_cases c8 : a2 = 0
      · rw [if_pos c8] at H
        have c8b0 : (a2 == 0) = true := beq_iff_eq.mpr c8
        have c8b1 : (a2 != 0) = false := bne_eq_false_iff_eq.mpr c8
        clear c8
        (first | rw [c8b0] | (simp only [i64_w, i32_w]; rw [c8b0]) | skip)
        have H' := Aside0.mk H
        clear H
        have hcz9_0 : w5.cell? ⟨gb188, 0, none⟩ = some (.int .i64 a0_0) := (blk_cell BK188.out 0).trans rfl
        have hcz9_1 : w5.cell? ⟨gb188, 1, none⟩ = some (.int .i64 a0_1) := (blk_cell BK188.out 1).trans rfl
        have hcz9_2 : w5.cell? ⟨gb188, 2, none⟩ = some (.int .u8 a0_2) := (blk_cell BK188.out 2).trans rfl
        have hcz9_3 : w5.cell? ⟨gb188, 3, none⟩ = some (.int .u16 a0_3) := (blk_cell BK188.out 3).trans rfl
        have hcz9_4 : w5.cell? ⟨gb188, 4, none⟩ = some (.int .u16 a0_4) := (blk_cell BK188.out 4).trans rfl
        have hcz9_5 : w5.cell? ⟨gb188, 5, none⟩ = some (.int .i64 a0_5) := (blk_cell BK188.out 5).trans rfl
        have hcz9_6 : w5.cell? ⟨gb188, 6, none⟩ = some (.int .i64 a0_6) := (blk_cell BK188.out 6).trans rfl
        have hcz9_7 : w5.cell? ⟨gb188, 7, none⟩ = some (.int .i64 a0_7) := (blk_cell BK188.out 7).trans rfl
        have hcz9_8 : w5.cell? ⟨gb188, 8, none⟩ = some (.int .i64 a0_8) := (blk_cell BK188.out 8).trans rfl
        have hcz9_9 : w5.cell? ⟨gb188, 9, none⟩ = some (.int .i64 a0_9) := (blk_cell BK188.out 9).trans rfl
        have hcz9_10 : w5.cell? ⟨gb188, 10, none⟩ = some (.int .i64 a0_10) := (blk_cell BK188.out 10).trans rfl
        have hcz9_11 : w5.cell? ⟨gb188, 11, none⟩ = some (.int .i64 a0_11) := (blk_cell BK188.out 11).trans rfl
        have hcz9_12 : w5.cell? ⟨gb188, 12, none⟩ = some (.int .i64 a0_12) := (blk_cell BK188.out 12).trans rfl
        have hcz9_13 : w5.cell? ⟨gb188, 13, none⟩ = some (.int .i64 a0_13) := (blk_cell BK188.out 13).trans rfl
        have hcz9_14 : w5.cell? ⟨gb188, 14, none⟩ = some (.int .i64 a0_14) := (blk_cell BK188.out 14).trans rfl
        have hcz9_15 : w5.cell? ⟨gb188, 15, none⟩ = some (.bool a0_15) := (blk_cell BK188.out 15).trans rfl
        have hfz9_0 := blk_frozen BK188.out 0
        have hfz9_1 := blk_frozen BK188.out 1
        have hfz9_2 := blk_frozen BK188.out 2
        have hfz9_3 := blk_frozen BK188.out 3
        have hfz9_4 := blk_frozen BK188.out 4
        have hfz9_5 := blk_frozen BK188.out 5
        have hfz9_6 := blk_frozen BK188.out 6
        have hfz9_7 := blk_frozen BK188.out 7
        have hfz9_8 := blk_frozen BK188.out 8
        have hfz9_9 := blk_frozen BK188.out 9
        have hfz9_10 := blk_frozen BK188.out 10
        have hfz9_11 := blk_frozen BK188.out 11
        have hfz9_12 := blk_frozen BK188.out 12
        have hfz9_13 := blk_frozen BK188.out 13
        have hfz9_14 := blk_frozen BK188.out 14
        have hfz9_15 := blk_frozen BK188.out 15
        go_wp2_with (first | ((with_reducible refine gate_callee (f := 33) rfl ?_); refine goesL_ (some 9) rfl rfl Try.func33 (by kernel_rfl) rfl #[.agg #[.int .i64 a0_0, .int .i64 a0_1, .int .u8 a0_2, .int .u16 a0_3, .int .u16 a0_4, .int .i64 a0_5, .int .i64 a0_6, .int .i64 a0_7, .int .i64 a0_8, .int .i64 a0_9, .int .i64 a0_10, .int .i64 a0_11, .int .i64 a0_12, .int .i64 a0_13, .int .i64 a0_14, .bool a0_15], .int .i64 a1] rfl (by (try simp only [List.map_toArray, List.map_cons, List.map_nil]); first | done | rfl | (simp only [List.length_drop, List.length_take]; rfl)) ?_; (with_reducible refine (plan_Plan_has.calls k a0_0 a0_1 a0_2 a0_3 a0_4 a0_5 a0_6 a0_7 a0_8 a0_9 a0_10 a0_11 a0_12 a0_13 a0_14 a0_15 a1 true _ A6.out).mono ?_); rintro e w10 ⟨rfl, hb⟩; refine ⟨_, rfl, ?_⟩; have n0_ := Aside0.mk (blk_below (g := gb188) (o := .cells #[.int .i64 a0_0, .int .i64 a0_1, .int .u8 a0_2, .int .u16 a0_3, .int .u16 a0_4, .int .i64 a0_5, .int .i64 a0_6, .int .i64 a0_7, .int .i64 a0_8, .int .i64 a0_9, .int .i64 a0_10, .int .i64 a0_11, .int .i64 a0_12, .int .i64 a0_13, .int .i64 a0_14, .bool a0_15] 24 (0, 0)) (by (with_reducible repeat (first | refine blk_drewN ?_ _ | refine blk_drew ?_ | refine blk_alloc ?_ _)); exact BK188.out) hb); have n1_ := Aside0.mk (below_step (by repeat (first | (with_reducible first | exact HB.out | apply below_alloc | apply pw_below_drewN | apply below_drew1 | refine below_set ?_ GE188.out) | exact HB.out)) hb); clear BK188; clear HB; have BK188 := n0_; have HB := n1_; clear n0_ n1_; (try clear hb); (try clear hb2); (try clear hk); (try clear hi)))
        go_meet
        case rel => exact ⟨_, (false), (by first | rfl | (simp; done) | (simp [*]; done)), H', ⟨by first | omega | exact Nat.le_refl _⟩, ⟨by (with_reducible repeat (first | refine blk_drewN ?_ _ | refine blk_drew ?_ | refine blk_alloc ?_ _)); exact BK188.out⟩, ⟨by repeat (first | (with_reducible first | exact HB.out | apply below_alloc | apply pw_below_drewN | apply below_drew1 | refine below_set ?_ GE188.out) | exact HB.out)⟩⟩
      · rw [if_neg c8] at H
        have c8b0 : (a2 == 0) = false := beq_eq_false_iff_ne.mpr c8
        have c8b1 : (a2 != 0) = true := bne_iff_ne.mpr c8
        (first | rw [c8b0] | (simp only [i64_w, i32_w]; rw [c8b0]) | skip)
        have H' := Aside0.mk H
        clear H
        have hcz11_0 : w5.cell? ⟨gb188, 0, none⟩ = some (.int .i64 a0_0) := (blk_cell BK188.out 0).trans rfl
        have hcz11_1 : w5.cell? ⟨gb188, 1, none⟩ = some (.int .i64 a0_1) := (blk_cell BK188.out 1).trans rfl
        have hcz11_2 : w5.cell? ⟨gb188, 2, none⟩ = some (.int .u8 a0_2) := (blk_cell BK188.out 2).trans rfl
        have hcz11_3 : w5.cell? ⟨gb188, 3, none⟩ = some (.int .u16 a0_3) := (blk_cell BK188.out 3).trans rfl
        have hcz11_4 : w5.cell? ⟨gb188, 4, none⟩ = some (.int .u16 a0_4) := (blk_cell BK188.out 4).trans rfl
        have hcz11_5 : w5.cell? ⟨gb188, 5, none⟩ = some (.int .i64 a0_5) := (blk_cell BK188.out 5).trans rfl
        have hcz11_6 : w5.cell? ⟨gb188, 6, none⟩ = some (.int .i64 a0_6) := (blk_cell BK188.out 6).trans rfl
        have hcz11_7 : w5.cell? ⟨gb188, 7, none⟩ = some (.int .i64 a0_7) := (blk_cell BK188.out 7).trans rfl
        have hcz11_8 : w5.cell? ⟨gb188, 8, none⟩ = some (.int .i64 a0_8) := (blk_cell BK188.out 8).trans rfl
        have hcz11_9 : w5.cell? ⟨gb188, 9, none⟩ = some (.int .i64 a0_9) := (blk_cell BK188.out 9).trans rfl
        have hcz11_10 : w5.cell? ⟨gb188, 10, none⟩ = some (.int .i64 a0_10) := (blk_cell BK188.out 10).trans rfl
        have hcz11_11 : w5.cell? ⟨gb188, 11, none⟩ = some (.int .i64 a0_11) := (blk_cell BK188.out 11).trans rfl
        have hcz11_12 : w5.cell? ⟨gb188, 12, none⟩ = some (.int .i64 a0_12) := (blk_cell BK188.out 12).trans rfl
        have hcz11_13 : w5.cell? ⟨gb188, 13, none⟩ = some (.int .i64 a0_13) := (blk_cell BK188.out 13).trans rfl
        have hcz11_14 : w5.cell? ⟨gb188, 14, none⟩ = some (.int .i64 a0_14) := (blk_cell BK188.out 14).trans rfl
        have hcz11_15 : w5.cell? ⟨gb188, 15, none⟩ = some (.bool a0_15) := (blk_cell BK188.out 15).trans rfl
        have hfz11_0 := blk_frozen BK188.out 0
        have hfz11_1 := blk_frozen BK188.out 1
        have hfz11_2 := blk_frozen BK188.out 2
        have hfz11_3 := blk_frozen BK188.out 3
        have hfz11_4 := blk_frozen BK188.out 4
        have hfz11_5 := blk_frozen BK188.out 5
        have hfz11_6 := blk_frozen BK188.out 6
        have hfz11_7 := blk_frozen BK188.out 7
        have hfz11_8 := blk_frozen BK188.out 8
        have hfz11_9 := blk_frozen BK188.out 9
        have hfz11_10 := blk_frozen BK188.out 10
        have hfz11_11 := blk_frozen BK188.out 11
        have hfz11_12 := blk_frozen BK188.out 12
        have hfz11_13 := blk_frozen BK188.out 13
        have hfz11_14 := blk_frozen BK188.out 14
        have hfz11_15 := blk_frozen BK188.out 15
        go_wp2_with (first | ((with_reducible refine gate_callee (f := 33) rfl ?_); refine goesL_ (some 9) rfl rfl Try.func33 (by kernel_rfl) rfl #[.agg #[.int .i64 a0_0, .int .i64 a0_1, .int .u8 a0_2, .int .u16 a0_3, .int .u16 a0_4, .int .i64 a0_5, .int .i64 a0_6, .int .i64 a0_7, .int .i64 a0_8, .int .i64 a0_9, .int .i64 a0_10, .int .i64 a0_11, .int .i64 a0_12, .int .i64 a0_13, .int .i64 a0_14, .bool a0_15], .int .i64 a1] rfl (by (try simp only [List.map_toArray, List.map_cons, List.map_nil]); first | done | rfl | (simp only [List.length_drop, List.length_take]; rfl)) ?_; (with_reducible refine (plan_Plan_has.calls k a0_0 a0_1 a0_2 a0_3 a0_4 a0_5 a0_6 a0_7 a0_8 a0_9 a0_10 a0_11 a0_12 a0_13 a0_14 a0_15 a1 true _ A6.out).mono ?_); rintro e w12 ⟨rfl, hb⟩; refine ⟨_, rfl, ?_⟩; have n0_ := Aside0.mk (blk_below (g := gb188) (o := .cells #[.int .i64 a0_0, .int .i64 a0_1, .int .u8 a0_2, .int .u16 a0_3, .int .u16 a0_4, .int .i64 a0_5, .int .i64 a0_6, .int .i64 a0_7, .int .i64 a0_8, .int .i64 a0_9, .int .i64 a0_10, .int .i64 a0_11, .int .i64 a0_12, .int .i64 a0_13, .int .i64 a0_14, .bool a0_15] 24 (0, 0)) (by (with_reducible repeat (first | refine blk_drewN ?_ _ | refine blk_drew ?_ | refine blk_alloc ?_ _)); exact BK188.out) hb); have n1_ := Aside0.mk (below_step (by repeat (first | (with_reducible first | exact HB.out | apply below_alloc | apply pw_below_drewN | apply below_drew1 | refine below_set ?_ GE188.out) | exact HB.out)) hb); clear BK188; clear HB; have BK188 := n0_; have HB := n1_; clear n0_ n1_; (try clear hb); (try clear hb2); (try clear hk); (try clear hi)))
        go_meet
        case rel => exact ⟨_, ((a2 != 1)), (by first | rfl | (simp; done) | (simp [*]; done)), H', ⟨by first | omega | exact Nat.le_refl _⟩, ⟨by (with_reducible repeat (first | refine blk_drewN ?_ _ | refine blk_drew ?_ | refine blk_alloc ?_ _)); exact BK188.out⟩, ⟨by repeat (first | (with_reducible first | exact HB.out | apply below_alloc | apply pw_below_drewN | apply below_drew1 | refine below_set ?_ GE188.out) | exact HB.out)⟩⟩
    · replace c7 := Bool.eq_false_iff.mpr c7
      subst c7
      have H1 : (plan_Plan_End.j0 k a1 a2 true) = some r := by rw [if_neg (show ¬ (false = true) by decide)] at H; exact H
      clear H
      have H := H1
      clear H1
      have H' := Aside0.mk H
      clear H
      have hcz13_0 : w5.cell? ⟨gb188, 0, none⟩ = some (.int .i64 a0_0) := (blk_cell BK188.out 0).trans rfl
      have hcz13_1 : w5.cell? ⟨gb188, 1, none⟩ = some (.int .i64 a0_1) := (blk_cell BK188.out 1).trans rfl
      have hcz13_2 : w5.cell? ⟨gb188, 2, none⟩ = some (.int .u8 a0_2) := (blk_cell BK188.out 2).trans rfl
      have hcz13_3 : w5.cell? ⟨gb188, 3, none⟩ = some (.int .u16 a0_3) := (blk_cell BK188.out 3).trans rfl
      have hcz13_4 : w5.cell? ⟨gb188, 4, none⟩ = some (.int .u16 a0_4) := (blk_cell BK188.out 4).trans rfl
      have hcz13_5 : w5.cell? ⟨gb188, 5, none⟩ = some (.int .i64 a0_5) := (blk_cell BK188.out 5).trans rfl
      have hcz13_6 : w5.cell? ⟨gb188, 6, none⟩ = some (.int .i64 a0_6) := (blk_cell BK188.out 6).trans rfl
      have hcz13_7 : w5.cell? ⟨gb188, 7, none⟩ = some (.int .i64 a0_7) := (blk_cell BK188.out 7).trans rfl
      have hcz13_8 : w5.cell? ⟨gb188, 8, none⟩ = some (.int .i64 a0_8) := (blk_cell BK188.out 8).trans rfl
      have hcz13_9 : w5.cell? ⟨gb188, 9, none⟩ = some (.int .i64 a0_9) := (blk_cell BK188.out 9).trans rfl
      have hcz13_10 : w5.cell? ⟨gb188, 10, none⟩ = some (.int .i64 a0_10) := (blk_cell BK188.out 10).trans rfl
      have hcz13_11 : w5.cell? ⟨gb188, 11, none⟩ = some (.int .i64 a0_11) := (blk_cell BK188.out 11).trans rfl
      have hcz13_12 : w5.cell? ⟨gb188, 12, none⟩ = some (.int .i64 a0_12) := (blk_cell BK188.out 12).trans rfl
      have hcz13_13 : w5.cell? ⟨gb188, 13, none⟩ = some (.int .i64 a0_13) := (blk_cell BK188.out 13).trans rfl
      have hcz13_14 : w5.cell? ⟨gb188, 14, none⟩ = some (.int .i64 a0_14) := (blk_cell BK188.out 14).trans rfl
      have hcz13_15 : w5.cell? ⟨gb188, 15, none⟩ = some (.bool a0_15) := (blk_cell BK188.out 15).trans rfl
      have hfz13_0 := blk_frozen BK188.out 0
      have hfz13_1 := blk_frozen BK188.out 1
      have hfz13_2 := blk_frozen BK188.out 2
      have hfz13_3 := blk_frozen BK188.out 3
      have hfz13_4 := blk_frozen BK188.out 4
      have hfz13_5 := blk_frozen BK188.out 5
      have hfz13_6 := blk_frozen BK188.out 6
      have hfz13_7 := blk_frozen BK188.out 7
      have hfz13_8 := blk_frozen BK188.out 8
      have hfz13_9 := blk_frozen BK188.out 9
      have hfz13_10 := blk_frozen BK188.out 10
      have hfz13_11 := blk_frozen BK188.out 11
      have hfz13_12 := blk_frozen BK188.out 12
      have hfz13_13 := blk_frozen BK188.out 13
      have hfz13_14 := blk_frozen BK188.out 14
      have hfz13_15 := blk_frozen BK188.out 15
      go_wp2_with (first | ((with_reducible refine gate_callee (f := 33) rfl ?_); refine goesL_ (some 9) rfl rfl Try.func33 (by kernel_rfl) rfl #[.agg #[.int .i64 a0_0, .int .i64 a0_1, .int .u8 a0_2, .int .u16 a0_3, .int .u16 a0_4, .int .i64 a0_5, .int .i64 a0_6, .int .i64 a0_7, .int .i64 a0_8, .int .i64 a0_9, .int .i64 a0_10, .int .i64 a0_11, .int .i64 a0_12, .int .i64 a0_13, .int .i64 a0_14, .bool a0_15], .int .i64 a1] rfl (by (try simp only [List.map_toArray, List.map_cons, List.map_nil]); first | done | rfl | (simp only [List.length_drop, List.length_take]; rfl)) ?_; (with_reducible refine (plan_Plan_has.calls k a0_0 a0_1 a0_2 a0_3 a0_4 a0_5 a0_6 a0_7 a0_8 a0_9 a0_10 a0_11 a0_12 a0_13 a0_14 a0_15 a1 false _ A6.out).mono ?_); rintro e w14 ⟨rfl, hb⟩; refine ⟨_, rfl, ?_⟩; have n0_ := Aside0.mk (blk_below (g := gb188) (o := .cells #[.int .i64 a0_0, .int .i64 a0_1, .int .u8 a0_2, .int .u16 a0_3, .int .u16 a0_4, .int .i64 a0_5, .int .i64 a0_6, .int .i64 a0_7, .int .i64 a0_8, .int .i64 a0_9, .int .i64 a0_10, .int .i64 a0_11, .int .i64 a0_12, .int .i64 a0_13, .int .i64 a0_14, .bool a0_15] 24 (0, 0)) (by (with_reducible repeat (first | refine blk_drewN ?_ _ | refine blk_drew ?_ | refine blk_alloc ?_ _)); exact BK188.out) hb); have n1_ := Aside0.mk (below_step (by repeat (first | (with_reducible first | exact HB.out | apply below_alloc | apply pw_below_drewN | apply below_drew1 | refine below_set ?_ GE188.out) | exact HB.out)) hb); clear BK188; clear HB; have BK188 := n0_; have HB := n1_; clear n0_ n1_; (try clear hb); (try clear hb2); (try clear hk); (try clear hi)))
      go_meet
      case rel => exact ⟨_, (true), (by first | rfl | (simp; done) | (simp [*]; done)), H', ⟨by first | omega | exact Nat.le_refl _⟩, ⟨by (with_reducible repeat (first | refine blk_drewN ?_ _ | refine blk_drew ?_ | refine blk_alloc ?_ _)); exact BK188.out⟩, ⟨by repeat (first | (with_reducible first | exact HB.out | apply below_alloc | apply pw_below_drewN | apply below_drew1 | refine below_set ?_ GE188.out) | exact HB.out)⟩⟩
  case rest =>
    clear HC4
    try clear c1
    try clear p2
    try clear c3
    try clear c7
    try clear c8
    try clear c8b0
    try clear c8b1
    try clear hcz11_0
    try clear hcz11_1
    try clear hcz11_10
    try clear hcz11_11
    try clear hcz11_12
    try clear hcz11_13
    try clear hcz11_14
    try clear hcz11_15
    try clear hcz11_2
    try clear hcz11_3
    try clear hcz11_4
    try clear hcz11_5
    try clear hcz11_6
    try clear hcz11_7
    try clear hcz11_8
    try clear hcz11_9
    try clear hcz13_0
    try clear hcz13_1
    try clear hcz13_10
    try clear hcz13_11
    try clear hcz13_12
    try clear hcz13_13
    try clear hcz13_14
    try clear hcz13_15
    try clear hcz13_2
    try clear hcz13_3
    try clear hcz13_4
    try clear hcz13_5
    try clear hcz13_6
    try clear hcz13_7
    try clear hcz13_8
    try clear hcz13_9
    try clear hcz9_0
    try clear hcz9_1
    try clear hcz9_10
    try clear hcz9_11
    try clear hcz9_12
    try clear hcz9_13
    try clear hcz9_14
    try clear hcz9_15
    try clear hcz9_2
    try clear hcz9_3
    try clear hcz9_4
    try clear hcz9_5
    try clear hcz9_6
    try clear hcz9_7
    try clear hcz9_8
    try clear hcz9_9
    try clear hfz11_0
    try clear hfz11_1
    try clear hfz11_10
    try clear hfz11_11
    try clear hfz11_12
    try clear hfz11_13
    try clear hfz11_14
    try clear hfz11_15
    try clear hfz11_2
    try clear hfz11_3
    try clear hfz11_4
    try clear hfz11_5
    try clear hfz11_6
    try clear hfz11_7
    try clear hfz11_8
    try clear hfz11_9
    try clear hfz13_0
    try clear hfz13_1
    try clear hfz13_10
    try clear hfz13_11
    try clear hfz13_12
    try clear hfz13_13
    try clear hfz13_14
    try clear hfz13_15
    try clear hfz13_2
    try clear hfz13_3
    try clear hfz13_4
    try clear hfz13_5
    try clear hfz13_6
    try clear hfz13_7
    try clear hfz13_8
    try clear hfz13_9
    try clear hfz9_0
    try clear hfz9_1
    try clear hfz9_10
    try clear hfz9_11
    try clear hfz9_12
    try clear hfz9_13
    try clear hfz9_14
    try clear hfz9_15
    try clear hfz9_2
    try clear hfz9_3
    try clear hfz9_4
    try clear hfz9_5
    try clear hfz9_6
    try clear hfz9_7
    try clear hfz9_8
    try clear hfz9_9
    obtain ⟨kq, x18_3, rfl, HA, HJ3, BK188, HB⟩ := hcut
    cases kq with
    | zero => exact absurd HA.out (by simp [plan_Plan_End.j0])
    | succ kj3 =>
      have H := HA.out
      clear HA
      simp only [plan_Plan_End.j0] at H
      by_cases c15 : x18_3 = true
      · subst c15
        have H1 : (some 0) = some r := by rw [if_pos rfl] at H; exact H
        clear H
        have H := H1
        clear H1
        obtain rfl := Option.some.inj H
        go_wp2
        go_ret
        exact ⟨by first | rfl | (simp [errW_none, errW_some] <;> rfl) | (simp [*, errW_none, errW_some] <;> rfl), by repeat (first | (with_reducible first | exact HB.out | apply below_alloc | apply pw_below_drewN | apply below_drew1 | refine below_set ?_ GE188.out) | exact HB.out)⟩
      · replace c15 := Bool.eq_false_iff.mpr c15
        subst c15
        have H1 : (some (IntKind.u16.wrap (wrap64 ((wrap64 ((wrap64 (2 * a1)) + a2)) + 1)))) = some r := by rw [if_neg (show ¬ (false = true) by decide)] at H; exact H
        clear H
        have H := H1
        clear H1
        obtain rfl := Option.some.inj H
        go_wp2
        go_ret
        exact ⟨by first | rfl | (simp [errW_none, errW_some] <;> rfl) | (simp [*, errW_none, errW_some] <;> rfl), by repeat (first | (with_reducible first | exact HB.out | apply below_alloc | apply pw_below_drewN | apply below_drew1 | refine below_set ?_ GE188.out) | exact HB.out)⟩

-- NOT PRINTED: function 6 (carousellaw16_PlanRings)

end Go.Proofs.Ytapicoienpbdfaa.PPlanRings
