-- Written by a program of this work, after the translation.
import Derived.Test.YtmdaaphjndjakagPAllx0
import Derived.Test.YtmdaaphjndjakagPAllx2
import Derived.Test.YtmdaaphjndjakagPAllx7
import Derived.Test.YtmdaaphjndjakagPAllx13
import Derived.Test.YtmdaaphjndjakagPAllx18
namespace Go.Proofs.Ytmdaaphjndjakag.PAll
open Go.RowKit Go.Proofs.YtmdaaphjndjakagW.PrintWords Go.Proofs.YtmdaaphjndjakagW.PrintLast Go.Proofs.YtmdaaphjndjakagW.PrintMore
attribute [local go_sem] max2_int min2_int max_two min_two max_three min_three max_four min_four   -- for this text's walks alone
set_option linter.unusedVariables false
set_option linter.unusedSimpArgs false

attribute [local go_sem high] eqA30
/-! ### carousellaw06_CcmOpens: function 3 -/
def carousellaw06_CcmOpens.f (k : Nat) (a0 : ByteArray) (a1 : Int) : Option (Bool) := if (a0.size : Int) > 600 then ((carousellaw06_Awake.f k).bind fun t212 => (some t212)) else ((ccm_Open.f k a0 a1).bind fun bt213 => ((carouselref06_Open.f k a0 a1).bind fun bt220 => ((carousellaw06_Awake.f k).bind fun t227 => (if t227 = true then (if (bt213.1 == bt220.1 && (bt213.2.1 == bt220.2.1 && (bt213.2.2.1 == bt220.2.2.1 && (bt213.2.2.2.1 == bt220.2.2.2.1 && (bt213.2.2.2.2.1.toList == bt220.2.2.2.2.1.toList))))) = true then (some (bt213.2.2.2.2.2 == bt220.2.2.2.2.2)) else (some false)) else (some false)))))
theorem carousellaw06_CcmOpens.mono : ∀ a0 a1 k, LeO (carousellaw06_CcmOpens.f k a0 a1) (carousellaw06_CcmOpens.f (k + 1) a0 a1) := by
  intro a0 a1 k
  unfold carousellaw06_CcmOpens.f
  repeat' first
      | (with_reducible exact carousellaw06_Awake.mono _)
      | (with_reducible exact carouselref06_Open.mono _ _ _)
      | (with_reducible exact ccm_Open.mono _ _ _)
      | (with_reducible exact LeO.refl _)
      | (with_reducible exact LeO.none _)
      | (with_reducible refine LeO.ite ?_ ?_)
      | (with_reducible refine LeO.bind ?_ (fun _ => ?_))
      | exact carousellaw06_Awake.mono _
      | exact carouselref06_Open.mono _ _ _
      | exact ccm_Open.mono _ _ _
      | exact LeO.none _
      | refine LeO.ite ?_ ?_
      | refine LeO.bind ?_ (fun _ => ?_)
set_option maxHeartbeats 8000000 in
set_option maxRecDepth 100000 in
theorem carousellaw06_CcmOpens.calls (k : Nat) (a0 : ByteArray) (a1 : Int) (r : Bool) (w : World) (h : carousellaw06_CcmOpens.f k a0 a1 = some r) (hT : r = true) :
    Calls Try.prog 3 #[.string a0, .int .u8 a1] w fun e w' => e = .returned (.bool r) ∧ Below w.heap.size w w' := by
  have hu26 := Try.underlying26
  have hu30 := Try.underlying30
  have HB := Aside0.mk (Below.refl w.heap.size w)
  have H : (if (a0.size : Int) > 600 then ((carousellaw06_Awake.f k).bind fun t212 => (some t212)) else ((ccm_Open.f k a0 a1).bind fun bt213 => ((carouselref06_Open.f k a0 a1).bind fun bt220 => ((carousellaw06_Awake.f k).bind fun t227 => (if t227 = true then (if (bt213.1 == bt220.1 && (bt213.2.1 == bt220.2.1 && (bt213.2.2.1 == bt220.2.2.1 && (bt213.2.2.2.1 == bt220.2.2.2.1 && (bt213.2.2.2.2.1.toList == bt220.2.2.2.2.1.toList))))) = true then (some (bt213.2.2.2.2.2 == bt220.2.2.2.2.2)) else (some false)) else (some false)))))) = some r := h
  clear h
  by_cases c3 : (a0.size : Int) > 600
  · rw [if_pos c3] at H
    have c3b0 : decide (600 < (a0.size : Int)) = true := decide_eq_true c3
    have c3b1 : decide (600 < a0.size) = true := decide_eq_true (by omega)
    clear c3
    replace H := Option.bind_eq_some_iff.mp H
    obtain ⟨t212, A40, H⟩ := H
    replace H : (some t212) = some r := H
    have A4 := Aside0.mk A40
    clear A40
    obtain rfl := Option.some.inj H
    go_enter Try.func3, Try.ntmps3
    go_wp2_with (first | ((with_reducible refine gate_callee (f := 9) rfl ?_); refine goesL_ (some 12) rfl rfl Try.func9 (by kernel_rfl) rfl #[] rfl (by (try simp only [List.map_toArray, List.map_cons, List.map_nil]); first | done | rfl | (simp only [List.length_drop, List.length_take]; rfl)) ?_; (with_reducible refine (carousellaw06_Awake.calls k  t212 _ A4.out).mono ?_); rintro e w5 ⟨rfl, hb⟩; refine ⟨_, rfl, ?_⟩; have n0_ := Aside0.mk (below_step (by repeat (first | (with_reducible first | exact HB.out | apply below_alloc | apply pw_below_drewN | apply below_drew1) | exact HB.out)) hb); clear HB; have HB := n0_; clear n0_; (try clear hb); (try clear hb2); (try clear hk); (try clear hi)))
    go_ret
    exact ⟨by first | rfl | (simp [errW_none, errW_some] <;> rfl) | (simp [*, errW_none, errW_some] <;> rfl), by repeat (first | (with_reducible first | exact HB.out | apply below_alloc | apply pw_below_drewN | apply below_drew1) | exact HB.out)⟩
  · rw [if_neg c3] at H
    have c3b0 : decide (600 < (a0.size : Int)) = false := decide_eq_false c3
    have c3b1 : decide (600 < a0.size) = false := decide_eq_false (by omega)
    clear c3
    replace H := Option.bind_eq_some_iff.mp H
    obtain ⟨⟨t213, t214, t215, t216, t217, t218⟩, A60, H⟩ := H
    replace H : ((carouselref06_Open.f k a0 a1).bind fun bt220 => ((carousellaw06_Awake.f k).bind fun t227 => (if t227 = true then (if (t213 == bt220.1 && (t214 == bt220.2.1 && (t215 == bt220.2.2.1 && (t216 == bt220.2.2.2.1 && (t217.toList == bt220.2.2.2.2.1.toList))))) = true then (some (t218 == bt220.2.2.2.2.2)) else (some false)) else (some false)))) = some r := H
    have A6 := Aside0.mk A60
    clear A60
    replace H := Option.bind_eq_some_iff.mp H
    obtain ⟨⟨t220, t221, t222, t223, t224, t225⟩, A70, H⟩ := H
    replace H : ((carousellaw06_Awake.f k).bind fun t227 => (if t227 = true then (if (t213 == t220 && (t214 == t221 && (t215 == t222 && (t216 == t223 && (t217.toList == t224.toList))))) = true then (some (t218 == t225)) else (some false)) else (some false))) = some r := H
    have A7 := Aside0.mk A70
    clear A70
    replace H := Option.bind_eq_some_iff.mp H
    obtain ⟨t227, A80, H⟩ := H
    replace H : (if t227 = true then (if (t213 == t220 && (t214 == t221 && (t215 == t222 && (t216 == t223 && (t217.toList == t224.toList))))) = true then (some (t218 == t225)) else (some false)) else (some false)) = some r := H
    have A8 := Aside0.mk A80
    clear A80
    by_cases c9 : t227 = true
    · subst c9
      have H1 : (if (t213 == t220 && (t214 == t221 && (t215 == t222 && (t216 == t223 && (t217.toList == t224.toList))))) = true then (some (t218 == t225)) else (some false)) = some r := by rw [if_pos rfl] at H; exact H
      clear H
      have H := H1
      clear H1
      by_cases c10 : (t213 == t220 && (t214 == t221 && (t215 == t222 && (t216 == t223 && (t217.toList == t224.toList))))) = true
      · rw [if_pos c10] at H
        have c10b0 : (t213 == t220 && (t214 == t221 && (t215 == t222 && (t216 == t223 && (t217.toList == t224.toList))))) = true := c10
        (try (have c10b1 : decide (t213 = t220 && (t214 == t221 && (t215 == t222 && (t216 == t223 && (t217.toList == t224.toList))))) = true := by simpa using c10))
        (try (have c10b2 : (t213 == t220 && (t214 == t221 && (t215 == t222 && (t216 == t223 && (t217.toList == t224.toList))))) = true := by simpa using c10))
        clear c10
        obtain rfl := Option.some.inj H
        go_enter Try.func3, Try.ntmps3
        go_wp2_with (first | ((with_reducible refine gate_callee (f := 10) rfl ?_); refine goesL_ (some 16) rfl rfl Try.func10 (by kernel_rfl) rfl #[.string a0, .int .u8 a1] rfl (by (try simp only [List.map_toArray, List.map_cons, List.map_nil]); first | done | rfl | (simp only [List.length_drop, List.length_take]; rfl)) ?_; (with_reducible refine (ccm_Open.calls k a0 a1 t213 t214 t215 t216 t217 t218 _ A6.out).mono ?_); rintro e w11 ⟨rfl, hb⟩; refine ⟨_, rfl, ?_⟩; have n0_ := Aside0.mk (below_step (by repeat (first | (with_reducible first | exact HB.out | apply below_alloc | apply pw_below_drewN | apply below_drew1) | exact HB.out)) hb); clear HB; have HB := n0_; clear n0_; (try clear hb); (try clear hb2); (try clear hk); (try clear hi)) | ((with_reducible refine gate_dst (N := 5) rfl ?_); refine box_event ?hg (N := 5) ?hd (cs := #[.bool false, .int .u8 0, .int .u32 0, .int .u16 0, .string (⟨#[]⟩ : ByteArray)]) (t := 26) ?hr ?_; (case hd => rfl); (case hg => rfl); (case hr => first | (go_simp; done) | (go_simp; rfl)); intro gb219 hg w12 hbox hb; have n0_ := Aside0.mk (below_step (by repeat (first | (with_reducible first | exact HB.out | apply below_alloc | apply pw_below_drewN | apply below_drew1) | exact HB.out)) hb); have n1_ := Aside0.mk (hbox); have n2_ := Aside0.mk ((by rw [hg]; exact (below_size (by repeat (first | (with_reducible first | exact HB.out | apply below_alloc | apply pw_below_drewN | apply below_drew1) | exact HB.out))) : w.heap.size ≤ gb219)); have n3_ := Aside0.mk ((by rw [hg]; exact (below_size (by repeat (first | (with_reducible first | exact HB.out | apply below_alloc | apply pw_below_drewN | apply below_drew1) | exact HB.out))) : w.heap.size ≤ gb219)); clear HB; have HB := n0_; have BK219 := n1_; have GW219 := n2_; have GE219 := n3_; clear n0_ n1_ n2_ n3_; clear hb hbox hg; have hcz13_0 : w12.cell? ⟨gb219, 0, none⟩ = some (.bool false) := (blk_cell BK219.out 0).trans rfl; have hcz13_1 : w12.cell? ⟨gb219, 1, none⟩ = some (.int .u8 0) := (blk_cell BK219.out 1).trans rfl; have hcz13_2 : w12.cell? ⟨gb219, 2, none⟩ = some (.int .u32 0) := (blk_cell BK219.out 2).trans rfl; have hcz13_3 : w12.cell? ⟨gb219, 3, none⟩ = some (.int .u16 0) := (blk_cell BK219.out 3).trans rfl; have hcz13_4 : w12.cell? ⟨gb219, 4, none⟩ = some (.string (⟨#[]⟩ : ByteArray)) := (blk_cell BK219.out 4).trans rfl; have hfz13_0 := blk_frozen BK219.out 0; have hfz13_1 := blk_frozen BK219.out 1; have hfz13_2 := blk_frozen BK219.out 2; have hfz13_3 := blk_frozen BK219.out 3; have hfz13_4 := blk_frozen BK219.out 4) | ((with_reducible refine gate_callee (f := 11) rfl ?_); refine goesL_ (some 22) rfl rfl Try.func11 (by kernel_rfl) rfl #[.string a0, .int .u8 a1] rfl (by (try simp only [List.map_toArray, List.map_cons, List.map_nil]); first | done | rfl | (simp only [List.length_drop, List.length_take]; rfl)) ?_; (with_reducible refine (carouselref06_Open.calls k a0 a1 t220 t221 t222 t223 t224 t225 _ A7.out).mono ?_); rintro e w14 ⟨rfl, hb⟩; refine ⟨_, rfl, ?_⟩; have n0_ := Aside0.mk (blk_below (g := gb219) (o := .cells #[.bool t213, .int .u8 t214, .int .u32 t215, .int .u16 t216, .string t217] 26 (0, 0)) (by (with_reducible repeat (first | refine blk_drewN ?_ _ | refine blk_drew ?_ | refine blk_alloc ?_ _)); refine blk_put (cs := #[.bool t213, .int .u8 t214, .int .u32 t215, .int .u16 t216, .string (⟨#[]⟩ : ByteArray)]) ?_ 4 _ rfl; (with_reducible repeat (first | refine blk_drewN ?_ _ | refine blk_drew ?_ | refine blk_alloc ?_ _)); refine blk_put (cs := #[.bool t213, .int .u8 t214, .int .u32 t215, .int .u16 0, .string (⟨#[]⟩ : ByteArray)]) ?_ 3 _ rfl; (with_reducible repeat (first | refine blk_drewN ?_ _ | refine blk_drew ?_ | refine blk_alloc ?_ _)); refine blk_put (cs := #[.bool t213, .int .u8 t214, .int .u32 0, .int .u16 0, .string (⟨#[]⟩ : ByteArray)]) ?_ 2 _ rfl; (with_reducible repeat (first | refine blk_drewN ?_ _ | refine blk_drew ?_ | refine blk_alloc ?_ _)); refine blk_put (cs := #[.bool t213, .int .u8 0, .int .u32 0, .int .u16 0, .string (⟨#[]⟩ : ByteArray)]) ?_ 1 _ rfl; (with_reducible repeat (first | refine blk_drewN ?_ _ | refine blk_drew ?_ | refine blk_alloc ?_ _)); refine blk_put (cs := #[.bool false, .int .u8 0, .int .u32 0, .int .u16 0, .string (⟨#[]⟩ : ByteArray)]) ?_ 0 _ rfl; (with_reducible repeat (first | refine blk_drewN ?_ _ | refine blk_drew ?_ | refine blk_alloc ?_ _)); exact BK219.out) hb); have n1_ := Aside0.mk (below_step (by repeat (first | (with_reducible first | exact HB.out | apply below_alloc | apply pw_below_drewN | apply below_drew1 | refine below_set ?_ GE219.out) | exact HB.out)) hb); clear BK219; clear HB; have BK219 := n0_; have HB := n1_; clear n0_ n1_; (try clear hb); (try clear hb2); (try clear hk); (try clear hi)) | ((with_reducible refine gate_dst (N := 7) rfl ?_); refine box_event ?hg (N := 7) ?hd (cs := #[.bool false, .int .u8 0, .int .u32 0, .int .u16 0, .string (⟨#[]⟩ : ByteArray)]) (t := 30) ?hr ?_; (case hd => rfl); (case hg => rfl); (case hr => first | (go_simp; done) | (go_simp; rfl)); intro gb226 hg w15 hbox hb; have n0_ := Aside0.mk (blk_below (g := gb219) (o := .cells #[.bool t213, .int .u8 t214, .int .u32 t215, .int .u16 t216, .string t217] 26 (0, 0)) (by (with_reducible repeat (first | refine blk_drewN ?_ _ | refine blk_drew ?_ | refine blk_alloc ?_ _)); exact BK219.out) hb); have n1_ := Aside0.mk (below_step (by repeat (first | (with_reducible first | exact HB.out | apply below_alloc | apply pw_below_drewN | apply below_drew1 | refine below_set ?_ GE219.out) | exact HB.out)) hb); have n2_ := Aside0.mk (hbox); have n3_ := Aside0.mk ((by rw [hg]; exact (below_size (by repeat (first | (with_reducible first | exact HB.out | apply below_alloc | apply pw_below_drewN | apply below_drew1 | refine below_set ?_ GE219.out) | exact HB.out))) : w.heap.size ≤ gb226)); have n4_ := Aside0.mk ((by rw [hg]; exact (below_size (by repeat (first | (with_reducible first | exact HB.out | apply below_alloc | apply pw_below_drewN | apply below_drew1 | refine below_set ?_ GE219.out) | exact HB.out))) : w.heap.size ≤ gb226)); have n5_ := Aside0.mk ((by rw [hg]; exact Nat.ne_of_lt (blk_lt (g := gb219) (o := .cells #[.bool t213, .int .u8 t214, .int .u32 t215, .int .u16 t216, .string t217] 26 (0, 0)) (by (with_reducible repeat (first | refine blk_drewN ?_ _ | refine blk_drew ?_ | refine blk_alloc ?_ _)); exact BK219.out)) : gb219 ≠ gb226)); have n6_ := Aside0.mk ((by rw [hg]; exact Nat.ne_of_gt (blk_lt (g := gb219) (o := .cells #[.bool t213, .int .u8 t214, .int .u32 t215, .int .u16 t216, .string t217] 26 (0, 0)) (by (with_reducible repeat (first | refine blk_drewN ?_ _ | refine blk_drew ?_ | refine blk_alloc ?_ _)); exact BK219.out)) : gb226 ≠ gb219)); clear BK219; clear HB; have BK219 := n0_; have HB := n1_; have BK226 := n2_; have GW226 := n3_; have GE226 := n4_; have NB219_226 := n5_; have NB226_219 := n6_; clear n0_ n1_ n2_ n3_ n4_ n5_ n6_; clear hb hbox hg; have hnb16 := NB226_219.out; have hnc16 := NB219_226.out; have hcz17_0 : w15.cell? ⟨gb226, 0, none⟩ = some (.bool false) := (blk_cell BK226.out 0).trans rfl; have hcz17_1 : w15.cell? ⟨gb226, 1, none⟩ = some (.int .u8 0) := (blk_cell BK226.out 1).trans rfl; have hcz17_2 : w15.cell? ⟨gb226, 2, none⟩ = some (.int .u32 0) := (blk_cell BK226.out 2).trans rfl; have hcz17_3 : w15.cell? ⟨gb226, 3, none⟩ = some (.int .u16 0) := (blk_cell BK226.out 3).trans rfl; have hcz17_4 : w15.cell? ⟨gb226, 4, none⟩ = some (.string (⟨#[]⟩ : ByteArray)) := (blk_cell BK226.out 4).trans rfl; have hfz17_0 := blk_frozen BK226.out 0; have hfz17_1 := blk_frozen BK226.out 1; have hfz17_2 := blk_frozen BK226.out 2; have hfz17_3 := blk_frozen BK226.out 3; have hfz17_4 := blk_frozen BK226.out 4) | ((with_reducible refine gate_callee (f := 9) rfl ?_); refine goesL_ (some 25) rfl rfl Try.func9 (by kernel_rfl) rfl #[] rfl (by (try simp only [List.map_toArray, List.map_cons, List.map_nil]); first | done | rfl | (simp only [List.length_drop, List.length_take]; rfl)) ?_; (with_reducible refine (carousellaw06_Awake.calls k  true _ A8.out).mono ?_); rintro e w18 ⟨rfl, hb⟩; refine ⟨_, rfl, ?_⟩; have n0_ := Aside0.mk (blk_below (g := gb219) (o := .cells #[.bool t213, .int .u8 t214, .int .u32 t215, .int .u16 t216, .string t217] 26 (0, 0)) (by (with_reducible repeat (first | refine blk_drewN ?_ _ | refine blk_drew ?_ | refine blk_alloc ?_ _)); refine blk_far ?_ NB219_226.out _; (with_reducible repeat (first | refine blk_drewN ?_ _ | refine blk_drew ?_ | refine blk_alloc ?_ _)); refine blk_far ?_ NB219_226.out _; (with_reducible repeat (first | refine blk_drewN ?_ _ | refine blk_drew ?_ | refine blk_alloc ?_ _)); refine blk_far ?_ NB219_226.out _; (with_reducible repeat (first | refine blk_drewN ?_ _ | refine blk_drew ?_ | refine blk_alloc ?_ _)); refine blk_far ?_ NB219_226.out _; (with_reducible repeat (first | refine blk_drewN ?_ _ | refine blk_drew ?_ | refine blk_alloc ?_ _)); refine blk_far ?_ NB219_226.out _; (with_reducible repeat (first | refine blk_drewN ?_ _ | refine blk_drew ?_ | refine blk_alloc ?_ _)); exact BK219.out) hb); have n1_ := Aside0.mk (blk_below (g := gb226) (o := .cells #[.bool t220, .int .u8 t221, .int .u32 t222, .int .u16 t223, .string t224] 30 (0, 0)) (by (with_reducible repeat (first | refine blk_drewN ?_ _ | refine blk_drew ?_ | refine blk_alloc ?_ _)); refine blk_put (cs := #[.bool t220, .int .u8 t221, .int .u32 t222, .int .u16 t223, .string (⟨#[]⟩ : ByteArray)]) ?_ 4 _ rfl; (with_reducible repeat (first | refine blk_drewN ?_ _ | refine blk_drew ?_ | refine blk_alloc ?_ _)); refine blk_put (cs := #[.bool t220, .int .u8 t221, .int .u32 t222, .int .u16 0, .string (⟨#[]⟩ : ByteArray)]) ?_ 3 _ rfl; (with_reducible repeat (first | refine blk_drewN ?_ _ | refine blk_drew ?_ | refine blk_alloc ?_ _)); refine blk_put (cs := #[.bool t220, .int .u8 t221, .int .u32 0, .int .u16 0, .string (⟨#[]⟩ : ByteArray)]) ?_ 2 _ rfl; (with_reducible repeat (first | refine blk_drewN ?_ _ | refine blk_drew ?_ | refine blk_alloc ?_ _)); refine blk_put (cs := #[.bool t220, .int .u8 0, .int .u32 0, .int .u16 0, .string (⟨#[]⟩ : ByteArray)]) ?_ 1 _ rfl; (with_reducible repeat (first | refine blk_drewN ?_ _ | refine blk_drew ?_ | refine blk_alloc ?_ _)); refine blk_put (cs := #[.bool false, .int .u8 0, .int .u32 0, .int .u16 0, .string (⟨#[]⟩ : ByteArray)]) ?_ 0 _ rfl; (with_reducible repeat (first | refine blk_drewN ?_ _ | refine blk_drew ?_ | refine blk_alloc ?_ _)); exact BK226.out) hb); have n2_ := Aside0.mk (below_step (by repeat (first | (with_reducible first | exact HB.out | apply below_alloc | apply pw_below_drewN | apply below_drew1 | refine below_set ?_ GE219.out | refine below_set ?_ GE226.out) | exact HB.out)) hb); clear BK219; clear BK226; clear HB; have BK219 := n0_; have BK226 := n1_; have HB := n2_; clear n0_ n1_ n2_; (try clear hb); (try clear hb2); (try clear hk); (try clear hi); have hcz19_0 : w18.cell? ⟨gb219, 0, none⟩ = some (.bool t213) := (blk_cell BK219.out 0).trans rfl; have hcz19_1 : w18.cell? ⟨gb219, 1, none⟩ = some (.int .u8 t214) := (blk_cell BK219.out 1).trans rfl; have hcz19_2 : w18.cell? ⟨gb219, 2, none⟩ = some (.int .u32 t215) := (blk_cell BK219.out 2).trans rfl; have hcz19_3 : w18.cell? ⟨gb219, 3, none⟩ = some (.int .u16 t216) := (blk_cell BK219.out 3).trans rfl; have hcz19_4 : w18.cell? ⟨gb219, 4, none⟩ = some (.string t217) := (blk_cell BK219.out 4).trans rfl; have hfz19_0 := blk_frozen BK219.out 0; have hfz19_1 := blk_frozen BK219.out 1; have hfz19_2 := blk_frozen BK219.out 2; have hfz19_3 := blk_frozen BK219.out 3; have hfz19_4 := blk_frozen BK219.out 4; have hcz20_0 : w18.cell? ⟨gb226, 0, none⟩ = some (.bool t220) := (blk_cell BK226.out 0).trans rfl; have hcz20_1 : w18.cell? ⟨gb226, 1, none⟩ = some (.int .u8 t221) := (blk_cell BK226.out 1).trans rfl; have hcz20_2 : w18.cell? ⟨gb226, 2, none⟩ = some (.int .u32 t222) := (blk_cell BK226.out 2).trans rfl; have hcz20_3 : w18.cell? ⟨gb226, 3, none⟩ = some (.int .u16 t223) := (blk_cell BK226.out 3).trans rfl; have hcz20_4 : w18.cell? ⟨gb226, 4, none⟩ = some (.string t224) := (blk_cell BK226.out 4).trans rfl; have hfz20_0 := blk_frozen BK226.out 0; have hfz20_1 := blk_frozen BK226.out 1; have hfz20_2 := blk_frozen BK226.out 2; have hfz20_3 := blk_frozen BK226.out 3; have hfz20_4 := blk_frozen BK226.out 4))
        go_ret
        exact ⟨by first | rfl | (simp [errW_none, errW_some] <;> rfl) | (simp [*, errW_none, errW_some] <;> rfl), by repeat (first | (with_reducible first | exact HB.out | apply below_alloc | apply pw_below_drewN | apply below_drew1 | refine below_set ?_ GE219.out | refine below_set ?_ GE226.out) | exact HB.out)⟩
      · rw [if_neg c10] at H
        have c10b0 : (t213 == t220 && (t214 == t221 && (t215 == t222 && (t216 == t223 && (t217.toList == t224.toList))))) = false := by simpa using c10
        (try (have c10b1 : decide (t213 = t220 && (t214 == t221 && (t215 == t222 && (t216 == t223 && (t217.toList == t224.toList))))) = false := by simpa using c10))
        (try (have c10b2 : (t213 == t220 && (t214 == t221 && (t215 == t222 && (t216 == t223 && (t217.toList == t224.toList))))) = false := by simpa using c10))
        (try (have c10b3 : ¬ (t213 = t220 && (t214 == t221 && (t215 == t222 && (t216 == t223 && (t217.toList == t224.toList))))) := by simpa using c10))
        clear c10
        cases (Option.some.inj H).trans hT
    · replace c9 := Bool.eq_false_iff.mpr c9
      subst c9
      have H1 : (some false) = some r := by rw [if_neg (show ¬ (false = true) by decide)] at H; exact H
      clear H
      have H := H1
      clear H1
      cases (Option.some.inj H).trans hT

/-- THE ONE PURE STATEMENT of carousellaw06_CcmOpens: yours. -/
def carousellaw06_CcmOpens.Pure : Prop := ∀ (a0 : ByteArray) (a1 : Int), a0.size ≤ 140737488351232 → (Lit.int .u8 a1).wf = true → ∃ k, carousellaw06_CcmOpens.f k a0 a1 = some true
theorem carousellaw06_CcmOpens.walk (P : carousellaw06_CcmOpens.Pure) (a0 : ByteArray) (a1 : Int) (w : World) (w0_0 : a0.size ≤ 140737488351232) (w1_0 : (Lit.int .u8 a1).wf = true) :
    Calls Try.prog 3 #[.string a0, .int .u8 a1] w fun e w' => e = .returned (.bool true) ∧ Below w.heap.size w w' := by
  obtain ⟨k, h⟩ := P a0 a1 w0_0 w1_0
  refine (carousellaw06_CcmOpens.calls k a0 a1 true w h rfl).mono ?_
  rintro e w' ⟨rfl, hd⟩
  exact ⟨rfl, hd⟩

end Go.Proofs.Ytmdaaphjndjakag.PAll
