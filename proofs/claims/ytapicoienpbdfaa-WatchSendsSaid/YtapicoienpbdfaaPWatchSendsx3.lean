-- Written by a program of this work, after the translation.
import Derived.Test.YtapicoienpbdfaaPWatchSendsx0
import Derived.Test.YtapicoienpbdfaaPWatchSendsx1
import Derived.Test.YtapicoienpbdfaaPWatchSendsx2
namespace Go.Proofs.Ytapicoienpbdfaa.PWatchSends
open Go.RowKit Go.Proofs.YtapicoienpbdfaaW.PrintWords Go.Proofs.YtapicoienpbdfaaW.PrintLast Go.Proofs.YtapicoienpbdfaaW.PrintMore
attribute [local go_sem] max2_int min2_int max_two min_two max_three min_three max_four min_four   -- for this text's walks alone
set_option linter.unusedVariables false
set_option linter.unusedSimpArgs false

/-! ### carousellaw09_Awake: function 21 -/
def carousellaw09_Awake.f (k : Nat)  : Option (Bool) := (ccm_Name.f (⟨#[120]⟩ : ByteArray)).bind fun t154 => ((watch_New.f k 0 1 4 t154 2 0).bind fun bt155 => ((watch_Watch_Tick.f k bt155.1 bt155.2.1 bt155.2.2.1 bt155.2.2.2.1 bt155.2.2.2.2.1 bt155.2.2.2.2.2.1 bt155.2.2.2.2.2.2.1 bt155.2.2.2.2.2.2.2.1 bt155.2.2.2.2.2.2.2.2.1 bt155.2.2.2.2.2.2.2.2.2.1 7).bind fun bt167 => ((watch_Watch_Tick.f k bt155.1 bt155.2.1 bt155.2.2.1 bt155.2.2.2.1 bt155.2.2.2.2.1 bt155.2.2.2.2.2.1 bt155.2.2.2.2.2.2.1 bt155.2.2.2.2.2.2.2.1 bt155.2.2.2.2.2.2.2.2.1 bt155.2.2.2.2.2.2.2.2.2.1 8).bind fun bt179 => ((carousellaw06_Awake.f k).bind fun t191 => (if t191 = true then (if bt155.2.2.2.2.2.2.2.2.2.2 = 0 then (if bt167.2.2.2.2.2.2.2.2.1 = true then (some false) else (if bt179.2.2.2.2.2.2.2.2.1 = true then (some ((bt167.2.2.2.2.2.2.2.2.2.2.size : Int) == 75)) else (some false))) else (some false)) else (some false))))))
theorem carousellaw09_Awake.mono : ∀ k, LeO (carousellaw09_Awake.f k ) (carousellaw09_Awake.f (k + 1) ) := by
  intro  k
  unfold carousellaw09_Awake.f
  repeat' first
      | (with_reducible exact carousellaw06_Awake.mono _)
      | (with_reducible exact watch_New.mono _ _ _ _ _ _ _)
      | (with_reducible exact watch_Watch_Tick.mono _ _ _ _ _ _ _ _ _ _ _ _)
      | (with_reducible exact LeO.refl _)
      | (with_reducible exact LeO.none _)
      | (with_reducible refine LeO.ite ?_ ?_)
      | (with_reducible refine LeO.bind ?_ (fun _ => ?_))
      | exact carousellaw06_Awake.mono _
      | exact watch_New.mono _ _ _ _ _ _ _
      | exact watch_Watch_Tick.mono _ _ _ _ _ _ _ _ _ _ _ _
      | exact LeO.none _
      | refine LeO.ite ?_ ?_
      | refine LeO.bind ?_ (fun _ => ?_)
set_option maxHeartbeats 8000000 in
set_option maxRecDepth 100000 in
theorem carousellaw09_Awake.calls (k : Nat)  (r : Bool) (w : World) (h : carousellaw09_Awake.f k  = some r) :
    Calls Try.prog 21 #[] w fun e w' => e = .returned (.bool r) ∧ Below w.heap.size w w' := by
  have hT : r = true := by
    obtain ⟨K_, hK_⟩ := (Ev.of carousellaw09_Awake.mono (k := 60) (by decide +kernel) : Ev (fun k => carousellaw09_Awake.f k) true)
    have h1_ := at_rounds carousellaw09_Awake.mono (Nat.le_max_left k K_) h
    exact (Option.some.inj ((hK_ _ (Nat.le_max_right k K_)).symm.trans h1_)).symm
  have hu42 := Try.underlying42
  have HB := Aside0.mk (Below.refl w.heap.size w)
  have H : ((ccm_Name.f (⟨#[120]⟩ : ByteArray)).bind fun t154 => ((watch_New.f k 0 1 4 t154 2 0).bind fun bt155 => ((watch_Watch_Tick.f k bt155.1 bt155.2.1 bt155.2.2.1 bt155.2.2.2.1 bt155.2.2.2.2.1 bt155.2.2.2.2.2.1 bt155.2.2.2.2.2.2.1 bt155.2.2.2.2.2.2.2.1 bt155.2.2.2.2.2.2.2.2.1 bt155.2.2.2.2.2.2.2.2.2.1 7).bind fun bt167 => ((watch_Watch_Tick.f k bt155.1 bt155.2.1 bt155.2.2.1 bt155.2.2.2.1 bt155.2.2.2.2.1 bt155.2.2.2.2.2.1 bt155.2.2.2.2.2.2.1 bt155.2.2.2.2.2.2.2.1 bt155.2.2.2.2.2.2.2.2.1 bt155.2.2.2.2.2.2.2.2.2.1 8).bind fun bt179 => ((carousellaw06_Awake.f k).bind fun t191 => (if t191 = true then (if bt155.2.2.2.2.2.2.2.2.2.2 = 0 then (if bt167.2.2.2.2.2.2.2.2.1 = true then (some false) else (if bt179.2.2.2.2.2.2.2.2.1 = true then (some ((bt167.2.2.2.2.2.2.2.2.2.2.size : Int) == 75)) else (some false))) else (some false)) else (some false))))))) = some r := h
  clear h
  replace H := Option.bind_eq_some_iff.mp H
  obtain ⟨t154, A10, H⟩ := H
  replace H : ((watch_New.f k 0 1 4 t154 2 0).bind fun bt155 => ((watch_Watch_Tick.f k bt155.1 bt155.2.1 bt155.2.2.1 bt155.2.2.2.1 bt155.2.2.2.2.1 bt155.2.2.2.2.2.1 bt155.2.2.2.2.2.2.1 bt155.2.2.2.2.2.2.2.1 bt155.2.2.2.2.2.2.2.2.1 bt155.2.2.2.2.2.2.2.2.2.1 7).bind fun bt167 => ((watch_Watch_Tick.f k bt155.1 bt155.2.1 bt155.2.2.1 bt155.2.2.2.1 bt155.2.2.2.2.1 bt155.2.2.2.2.2.1 bt155.2.2.2.2.2.2.1 bt155.2.2.2.2.2.2.2.1 bt155.2.2.2.2.2.2.2.2.1 bt155.2.2.2.2.2.2.2.2.2.1 8).bind fun bt179 => ((carousellaw06_Awake.f k).bind fun t191 => (if t191 = true then (if bt155.2.2.2.2.2.2.2.2.2.2 = 0 then (if bt167.2.2.2.2.2.2.2.2.1 = true then (some false) else (if bt179.2.2.2.2.2.2.2.2.1 = true then (some ((bt167.2.2.2.2.2.2.2.2.2.2.size : Int) == 75)) else (some false))) else (some false)) else (some false)))))) = some r := H
  have A1 := Aside0.mk A10
  clear A10
  replace H := Option.bind_eq_some_iff.mp H
  obtain ⟨⟨t155, t156, t157, t158, t159, t160, t161, t162, t163, t164, t165⟩, A20, H⟩ := H
  replace H : ((watch_Watch_Tick.f k t155 t156 t157 t158 t159 t160 t161 t162 t163 t164 7).bind fun bt167 => ((watch_Watch_Tick.f k t155 t156 t157 t158 t159 t160 t161 t162 t163 t164 8).bind fun bt179 => ((carousellaw06_Awake.f k).bind fun t191 => (if t191 = true then (if t165 = 0 then (if bt167.2.2.2.2.2.2.2.2.1 = true then (some false) else (if bt179.2.2.2.2.2.2.2.2.1 = true then (some ((bt167.2.2.2.2.2.2.2.2.2.2.size : Int) == 75)) else (some false))) else (some false)) else (some false))))) = some r := H
  have A2 := Aside0.mk A20
  clear A20
  replace H := Option.bind_eq_some_iff.mp H
  obtain ⟨⟨t167, t168, t169, t170, t171, t172, t173, t174, t175, t176, t177⟩, A30, H⟩ := H
  replace H : ((watch_Watch_Tick.f k t155 t156 t157 t158 t159 t160 t161 t162 t163 t164 8).bind fun bt179 => ((carousellaw06_Awake.f k).bind fun t191 => (if t191 = true then (if t165 = 0 then (if t175 = true then (some false) else (if bt179.2.2.2.2.2.2.2.2.1 = true then (some ((t177.size : Int) == 75)) else (some false))) else (some false)) else (some false)))) = some r := H
  have A3 := Aside0.mk A30
  clear A30
  replace H := Option.bind_eq_some_iff.mp H
  obtain ⟨⟨t179, t180, t181, t182, t183, t184, t185, t186, t187, t188, t189⟩, A40, H⟩ := H
  replace H : ((carousellaw06_Awake.f k).bind fun t191 => (if t191 = true then (if t165 = 0 then (if t175 = true then (some false) else (if t187 = true then (some ((t177.size : Int) == 75)) else (some false))) else (some false)) else (some false))) = some r := H
  have A4 := Aside0.mk A40
  clear A40
  replace H := Option.bind_eq_some_iff.mp H
  obtain ⟨t191, A50, H⟩ := H
  replace H : (if t191 = true then (if t165 = 0 then (if t175 = true then (some false) else (if t187 = true then (some ((t177.size : Int) == 75)) else (some false))) else (some false)) else (some false)) = some r := H
  have A5 := Aside0.mk A50
  clear A50
  by_cases c6 : t191 = true
  · subst c6
    have H1 : (if t165 = 0 then (if t175 = true then (some false) else (if t187 = true then (some ((t177.size : Int) == 75)) else (some false))) else (some false)) = some r := by rw [if_pos rfl] at H; exact H
    clear H
    have H := H1
    clear H1
    by_cases c7 : t165 = 0
    · rw [if_pos c7] at H
      have c7b0 : (t165 == 0) = true := beq_iff_eq.mpr c7
      have c7b1 : (t165 != 0) = false := bne_eq_false_iff_eq.mpr c7
      clear c7
      by_cases c8 : t175 = true
      · subst c8
        have H1 : (some false) = some r := by rw [if_pos rfl] at H; exact H
        clear H
        have H := H1
        clear H1
        cases (Option.some.inj H).trans hT
      · replace c8 := Bool.eq_false_iff.mpr c8
        subst c8
        have H1 : (if t187 = true then (some ((t177.size : Int) == 75)) else (some false)) = some r := by rw [if_neg (show ¬ (false = true) by decide)] at H; exact H
        clear H
        have H := H1
        clear H1
        by_cases c9 : t187 = true
        · subst c9
          have H1 : (some ((t177.size : Int) == 75)) = some r := by rw [if_pos rfl] at H; exact H
          clear H
          have H := H1
          clear H1
          obtain rfl := Option.some.inj H
          go_enter Try.func21, Try.ntmps21
          go_wp2_with (first | ((with_reducible refine gate_callee (f := 28) rfl ?_); refine goesL_ (some 8) rfl rfl Try.func28 (by kernel_rfl) rfl #[.string (⟨#[120]⟩ : ByteArray)] rfl (by (try simp only [List.map_toArray, List.map_cons, List.map_nil]); first | done | rfl | (simp only [List.length_drop, List.length_take]; rfl)) ?_; (with_reducible refine (ccm_Name.calls (⟨#[120]⟩ : ByteArray) t154 _ A1.out).mono ?_); rintro e w10 ⟨rfl, hb⟩; refine ⟨_, rfl, ?_⟩; have n0_ := Aside0.mk (below_step (by repeat (first | (with_reducible first | exact HB.out | apply below_alloc | apply pw_below_drewN | apply below_drew1) | exact HB.out)) hb); clear HB; have HB := n0_; clear n0_; (try clear hb); (try clear hb2); (try clear hk); (try clear hi)) | ((with_reducible refine gate_callee (f := 22) rfl ?_); refine goesL_ (some 9) rfl rfl Try.func22 (by kernel_rfl) rfl #[.int .u8 0, .int .u16 1, .int .u8 4, .string t154, .int .i64 2, .int .i64 0] rfl (by (try simp only [List.map_toArray, List.map_cons, List.map_nil]); first | done | rfl | (simp only [List.length_drop, List.length_take]; rfl)) ?_; (with_reducible refine (watch_New.calls k 0 1 4 t154 2 0 t155 t156 t157 t158 t159 t160 t161 t162 t163 t164 t165 _ A2.out).mono ?_); rintro e w11 ⟨rfl, hb⟩; refine ⟨_, rfl, ?_⟩; have n0_ := Aside0.mk (below_step (by repeat (first | (with_reducible first | exact HB.out | apply below_alloc | apply pw_below_drewN | apply below_drew1) | exact HB.out)) hb); clear HB; have HB := n0_; clear n0_; (try clear hb); (try clear hb2); (try clear hk); (try clear hi)) | ((with_reducible refine gate_dst (N := 1) rfl ?_); (try (refine gate_guard (by rfl) ?_; dsimp only)); refine box_event ?hg (N := 1) ?hd (cs := #[.int .u8 0, .int .u16 0, .int .u8 0, .string (⟨#[]⟩ : ByteArray), .int .i64 0, .int .i64 0, .int .i64 0, .int .u64 0, .bool false, .bool false]) (t := 42) ?hr ?_; (case hd => rfl); (case hg => rfl); (case hr => first | (go_simp; done) | (go_simp; rfl)); intro gb166 hg w12 hbox hb; have n0_ := Aside0.mk (below_step (by repeat (first | (with_reducible first | exact HB.out | apply below_alloc | apply pw_below_drewN | apply below_drew1) | exact HB.out)) hb); have n1_ := Aside0.mk (hbox); have n2_ := Aside0.mk ((by rw [hg]; exact (below_size (by repeat (first | (with_reducible first | exact HB.out | apply below_alloc | apply pw_below_drewN | apply below_drew1) | exact HB.out))) : w.heap.size ≤ gb166)); have n3_ := Aside0.mk ((by rw [hg]; exact (below_size (by repeat (first | (with_reducible first | exact HB.out | apply below_alloc | apply pw_below_drewN | apply below_drew1) | exact HB.out))) : w.heap.size ≤ gb166)); clear HB; have HB := n0_; have BK166 := n1_; have GW166 := n2_; have GE166 := n3_; clear n0_ n1_ n2_ n3_; clear hb hbox hg; have hcz13_0 : w12.cell? ⟨gb166, 0, none⟩ = some (.int .u8 0) := (blk_cell BK166.out 0).trans rfl; have hcz13_1 : w12.cell? ⟨gb166, 1, none⟩ = some (.int .u16 0) := (blk_cell BK166.out 1).trans rfl; have hcz13_2 : w12.cell? ⟨gb166, 2, none⟩ = some (.int .u8 0) := (blk_cell BK166.out 2).trans rfl; have hcz13_3 : w12.cell? ⟨gb166, 3, none⟩ = some (.string (⟨#[]⟩ : ByteArray)) := (blk_cell BK166.out 3).trans rfl; have hcz13_4 : w12.cell? ⟨gb166, 4, none⟩ = some (.int .i64 0) := (blk_cell BK166.out 4).trans rfl; have hcz13_5 : w12.cell? ⟨gb166, 5, none⟩ = some (.int .i64 0) := (blk_cell BK166.out 5).trans rfl; have hcz13_6 : w12.cell? ⟨gb166, 6, none⟩ = some (.int .i64 0) := (blk_cell BK166.out 6).trans rfl; have hcz13_7 : w12.cell? ⟨gb166, 7, none⟩ = some (.int .u64 0) := (blk_cell BK166.out 7).trans rfl; have hcz13_8 : w12.cell? ⟨gb166, 8, none⟩ = some (.bool false) := (blk_cell BK166.out 8).trans rfl; have hcz13_9 : w12.cell? ⟨gb166, 9, none⟩ = some (.bool false) := (blk_cell BK166.out 9).trans rfl; have hfz13_0 := blk_frozen BK166.out 0; have hfz13_1 := blk_frozen BK166.out 1; have hfz13_2 := blk_frozen BK166.out 2; have hfz13_3 := blk_frozen BK166.out 3; have hfz13_4 := blk_frozen BK166.out 4; have hfz13_5 := blk_frozen BK166.out 5; have hfz13_6 := blk_frozen BK166.out 6; have hfz13_7 := blk_frozen BK166.out 7; have hfz13_8 := blk_frozen BK166.out 8; have hfz13_9 := blk_frozen BK166.out 9) | ((with_reducible refine gate_callee (f := 26) rfl ?_); refine goesL_ (some 14) rfl rfl Try.func26 (by kernel_rfl) rfl #[.agg #[.int .u8 t155, .int .u16 t156, .int .u8 t157, .string t158, .int .i64 t159, .int .i64 t160, .int .i64 t161, .int .u64 t162, .bool t163, .bool t164], .int .i64 7] rfl (by (try simp only [List.map_toArray, List.map_cons, List.map_nil]); first | done | rfl | (simp only [List.length_drop, List.length_take]; rfl)) ?_; (with_reducible refine (watch_Watch_Tick.calls k t155 t156 t157 t158 t159 t160 t161 t162 t163 t164 7 t167 t168 t169 t170 t171 t172 t173 t174 false t176 t177 _ A3.out).mono ?_); rintro e w14 ⟨rfl, hb⟩; refine ⟨_, rfl, ?_⟩; have n0_ := Aside0.mk (blk_below (g := gb166) (o := .cells #[.int .u8 t155, .int .u16 t156, .int .u8 t157, .string t158, .int .i64 t159, .int .i64 t160, .int .i64 t161, .int .u64 t162, .bool t163, .bool t164] 42 (0, 0)) (by (with_reducible repeat (first | refine blk_drewN ?_ _ | refine blk_drew ?_ | refine blk_alloc ?_ _)); refine blk_put (cs := #[.int .u8 t155, .int .u16 t156, .int .u8 t157, .string t158, .int .i64 t159, .int .i64 t160, .int .i64 t161, .int .u64 t162, .bool t163, .bool false]) ?_ 9 _ rfl; (with_reducible repeat (first | refine blk_drewN ?_ _ | refine blk_drew ?_ | refine blk_alloc ?_ _)); refine blk_put (cs := #[.int .u8 t155, .int .u16 t156, .int .u8 t157, .string t158, .int .i64 t159, .int .i64 t160, .int .i64 t161, .int .u64 t162, .bool false, .bool false]) ?_ 8 _ rfl; (with_reducible repeat (first | refine blk_drewN ?_ _ | refine blk_drew ?_ | refine blk_alloc ?_ _)); refine blk_put (cs := #[.int .u8 t155, .int .u16 t156, .int .u8 t157, .string t158, .int .i64 t159, .int .i64 t160, .int .i64 t161, .int .u64 0, .bool false, .bool false]) ?_ 7 _ rfl; (with_reducible repeat (first | refine blk_drewN ?_ _ | refine blk_drew ?_ | refine blk_alloc ?_ _)); refine blk_put (cs := #[.int .u8 t155, .int .u16 t156, .int .u8 t157, .string t158, .int .i64 t159, .int .i64 t160, .int .i64 0, .int .u64 0, .bool false, .bool false]) ?_ 6 _ rfl; (with_reducible repeat (first | refine blk_drewN ?_ _ | refine blk_drew ?_ | refine blk_alloc ?_ _)); refine blk_put (cs := #[.int .u8 t155, .int .u16 t156, .int .u8 t157, .string t158, .int .i64 t159, .int .i64 0, .int .i64 0, .int .u64 0, .bool false, .bool false]) ?_ 5 _ rfl; (with_reducible repeat (first | refine blk_drewN ?_ _ | refine blk_drew ?_ | refine blk_alloc ?_ _)); refine blk_put (cs := #[.int .u8 t155, .int .u16 t156, .int .u8 t157, .string t158, .int .i64 0, .int .i64 0, .int .i64 0, .int .u64 0, .bool false, .bool false]) ?_ 4 _ rfl; (with_reducible repeat (first | refine blk_drewN ?_ _ | refine blk_drew ?_ | refine blk_alloc ?_ _)); refine blk_put (cs := #[.int .u8 t155, .int .u16 t156, .int .u8 t157, .string (⟨#[]⟩ : ByteArray), .int .i64 0, .int .i64 0, .int .i64 0, .int .u64 0, .bool false, .bool false]) ?_ 3 _ rfl; (with_reducible repeat (first | refine blk_drewN ?_ _ | refine blk_drew ?_ | refine blk_alloc ?_ _)); refine blk_put (cs := #[.int .u8 t155, .int .u16 t156, .int .u8 0, .string (⟨#[]⟩ : ByteArray), .int .i64 0, .int .i64 0, .int .i64 0, .int .u64 0, .bool false, .bool false]) ?_ 2 _ rfl; (with_reducible repeat (first | refine blk_drewN ?_ _ | refine blk_drew ?_ | refine blk_alloc ?_ _)); refine blk_put (cs := #[.int .u8 t155, .int .u16 0, .int .u8 0, .string (⟨#[]⟩ : ByteArray), .int .i64 0, .int .i64 0, .int .i64 0, .int .u64 0, .bool false, .bool false]) ?_ 1 _ rfl; (with_reducible repeat (first | refine blk_drewN ?_ _ | refine blk_drew ?_ | refine blk_alloc ?_ _)); refine blk_put (cs := #[.int .u8 0, .int .u16 0, .int .u8 0, .string (⟨#[]⟩ : ByteArray), .int .i64 0, .int .i64 0, .int .i64 0, .int .u64 0, .bool false, .bool false]) ?_ 0 _ rfl; (with_reducible repeat (first | refine blk_drewN ?_ _ | refine blk_drew ?_ | refine blk_alloc ?_ _)); exact BK166.out) hb); have n1_ := Aside0.mk (below_step (by repeat (first | (with_reducible first | exact HB.out | apply below_alloc | apply pw_below_drewN | apply below_drew1 | refine below_set ?_ GE166.out) | exact HB.out)) hb); clear BK166; clear HB; have BK166 := n0_; have HB := n1_; clear n0_ n1_; (try clear hb); (try clear hb2); (try clear hk); (try clear hi)) | ((with_reducible refine gate_dst (N := 3) rfl ?_); (try (refine gate_guard (by rfl) ?_; dsimp only)); refine box_event ?hg (N := 3) ?hd (cs := #[.int .u8 0, .int .u16 0, .int .u8 0, .string (⟨#[]⟩ : ByteArray), .int .i64 0, .int .i64 0, .int .i64 0, .int .u64 0, .bool false, .bool false]) (t := 42) ?hr ?_; (case hd => rfl); (case hg => rfl); (case hr => first | (go_simp; done) | (go_simp; rfl)); intro gb178 hg w15 hbox hb; have n0_ := Aside0.mk (blk_below (g := gb166) (o := .cells #[.int .u8 t155, .int .u16 t156, .int .u8 t157, .string t158, .int .i64 t159, .int .i64 t160, .int .i64 t161, .int .u64 t162, .bool t163, .bool t164] 42 (0, 0)) (by (with_reducible repeat (first | refine blk_drewN ?_ _ | refine blk_drew ?_ | refine blk_alloc ?_ _)); exact BK166.out) hb); have n1_ := Aside0.mk (below_step (by repeat (first | (with_reducible first | exact HB.out | apply below_alloc | apply pw_below_drewN | apply below_drew1 | refine below_set ?_ GE166.out) | exact HB.out)) hb); have n2_ := Aside0.mk (hbox); have n3_ := Aside0.mk ((by rw [hg]; exact (below_size (by repeat (first | (with_reducible first | exact HB.out | apply below_alloc | apply pw_below_drewN | apply below_drew1 | refine below_set ?_ GE166.out) | exact HB.out))) : w.heap.size ≤ gb178)); have n4_ := Aside0.mk ((by rw [hg]; exact (below_size (by repeat (first | (with_reducible first | exact HB.out | apply below_alloc | apply pw_below_drewN | apply below_drew1 | refine below_set ?_ GE166.out) | exact HB.out))) : w.heap.size ≤ gb178)); have n5_ := Aside0.mk ((by rw [hg]; exact Nat.ne_of_lt (blk_lt (g := gb166) (o := .cells #[.int .u8 t155, .int .u16 t156, .int .u8 t157, .string t158, .int .i64 t159, .int .i64 t160, .int .i64 t161, .int .u64 t162, .bool t163, .bool t164] 42 (0, 0)) (by (with_reducible repeat (first | refine blk_drewN ?_ _ | refine blk_drew ?_ | refine blk_alloc ?_ _)); exact BK166.out)) : gb166 ≠ gb178)); have n6_ := Aside0.mk ((by rw [hg]; exact Nat.ne_of_gt (blk_lt (g := gb166) (o := .cells #[.int .u8 t155, .int .u16 t156, .int .u8 t157, .string t158, .int .i64 t159, .int .i64 t160, .int .i64 t161, .int .u64 t162, .bool t163, .bool t164] 42 (0, 0)) (by (with_reducible repeat (first | refine blk_drewN ?_ _ | refine blk_drew ?_ | refine blk_alloc ?_ _)); exact BK166.out)) : gb178 ≠ gb166)); clear BK166; clear HB; have BK166 := n0_; have HB := n1_; have BK178 := n2_; have GW178 := n3_; have GE178 := n4_; have NB166_178 := n5_; have NB178_166 := n6_; clear n0_ n1_ n2_ n3_ n4_ n5_ n6_; clear hb hbox hg; have hnb16 := NB178_166.out; have hnc16 := NB166_178.out; have hcz17_0 : w15.cell? ⟨gb178, 0, none⟩ = some (.int .u8 0) := (blk_cell BK178.out 0).trans rfl; have hcz17_1 : w15.cell? ⟨gb178, 1, none⟩ = some (.int .u16 0) := (blk_cell BK178.out 1).trans rfl; have hcz17_2 : w15.cell? ⟨gb178, 2, none⟩ = some (.int .u8 0) := (blk_cell BK178.out 2).trans rfl; have hcz17_3 : w15.cell? ⟨gb178, 3, none⟩ = some (.string (⟨#[]⟩ : ByteArray)) := (blk_cell BK178.out 3).trans rfl; have hcz17_4 : w15.cell? ⟨gb178, 4, none⟩ = some (.int .i64 0) := (blk_cell BK178.out 4).trans rfl; have hcz17_5 : w15.cell? ⟨gb178, 5, none⟩ = some (.int .i64 0) := (blk_cell BK178.out 5).trans rfl; have hcz17_6 : w15.cell? ⟨gb178, 6, none⟩ = some (.int .i64 0) := (blk_cell BK178.out 6).trans rfl; have hcz17_7 : w15.cell? ⟨gb178, 7, none⟩ = some (.int .u64 0) := (blk_cell BK178.out 7).trans rfl; have hcz17_8 : w15.cell? ⟨gb178, 8, none⟩ = some (.bool false) := (blk_cell BK178.out 8).trans rfl; have hcz17_9 : w15.cell? ⟨gb178, 9, none⟩ = some (.bool false) := (blk_cell BK178.out 9).trans rfl; have hfz17_0 := blk_frozen BK178.out 0; have hfz17_1 := blk_frozen BK178.out 1; have hfz17_2 := blk_frozen BK178.out 2; have hfz17_3 := blk_frozen BK178.out 3; have hfz17_4 := blk_frozen BK178.out 4; have hfz17_5 := blk_frozen BK178.out 5; have hfz17_6 := blk_frozen BK178.out 6; have hfz17_7 := blk_frozen BK178.out 7; have hfz17_8 := blk_frozen BK178.out 8; have hfz17_9 := blk_frozen BK178.out 9; have hcz18_0 : w15.cell? ⟨gb166, 0, none⟩ = some (.int .u8 t155) := (blk_cell BK166.out 0).trans rfl; have hcz18_1 : w15.cell? ⟨gb166, 1, none⟩ = some (.int .u16 t156) := (blk_cell BK166.out 1).trans rfl; have hcz18_2 : w15.cell? ⟨gb166, 2, none⟩ = some (.int .u8 t157) := (blk_cell BK166.out 2).trans rfl; have hcz18_3 : w15.cell? ⟨gb166, 3, none⟩ = some (.string t158) := (blk_cell BK166.out 3).trans rfl; have hcz18_4 : w15.cell? ⟨gb166, 4, none⟩ = some (.int .i64 t159) := (blk_cell BK166.out 4).trans rfl; have hcz18_5 : w15.cell? ⟨gb166, 5, none⟩ = some (.int .i64 t160) := (blk_cell BK166.out 5).trans rfl; have hcz18_6 : w15.cell? ⟨gb166, 6, none⟩ = some (.int .i64 t161) := (blk_cell BK166.out 6).trans rfl; have hcz18_7 : w15.cell? ⟨gb166, 7, none⟩ = some (.int .u64 t162) := (blk_cell BK166.out 7).trans rfl; have hcz18_8 : w15.cell? ⟨gb166, 8, none⟩ = some (.bool t163) := (blk_cell BK166.out 8).trans rfl; have hcz18_9 : w15.cell? ⟨gb166, 9, none⟩ = some (.bool t164) := (blk_cell BK166.out 9).trans rfl; have hfz18_0 := blk_frozen BK166.out 0; have hfz18_1 := blk_frozen BK166.out 1; have hfz18_2 := blk_frozen BK166.out 2; have hfz18_3 := blk_frozen BK166.out 3; have hfz18_4 := blk_frozen BK166.out 4; have hfz18_5 := blk_frozen BK166.out 5; have hfz18_6 := blk_frozen BK166.out 6; have hfz18_7 := blk_frozen BK166.out 7; have hfz18_8 := blk_frozen BK166.out 8; have hfz18_9 := blk_frozen BK166.out 9) | ((with_reducible refine gate_callee (f := 26) rfl ?_); refine goesL_ (some 19) rfl rfl Try.func26 (by kernel_rfl) rfl #[.agg #[.int .u8 t155, .int .u16 t156, .int .u8 t157, .string t158, .int .i64 t159, .int .i64 t160, .int .i64 t161, .int .u64 t162, .bool t163, .bool t164], .int .i64 8] rfl (by (try simp only [List.map_toArray, List.map_cons, List.map_nil]); first | done | rfl | (simp only [List.length_drop, List.length_take]; rfl)) ?_; (with_reducible refine (watch_Watch_Tick.calls k t155 t156 t157 t158 t159 t160 t161 t162 t163 t164 8 t179 t180 t181 t182 t183 t184 t185 t186 true t188 t189 _ A4.out).mono ?_); rintro e w19 ⟨rfl, hb⟩; refine ⟨_, rfl, ?_⟩; have n0_ := Aside0.mk (blk_below (g := gb166) (o := .cells #[.int .u8 t155, .int .u16 t156, .int .u8 t157, .string t158, .int .i64 t159, .int .i64 t160, .int .i64 t161, .int .u64 t162, .bool t163, .bool t164] 42 (0, 0)) (by (with_reducible repeat (first | refine blk_drewN ?_ _ | refine blk_drew ?_ | refine blk_alloc ?_ _)); refine blk_far ?_ NB166_178.out _; (with_reducible repeat (first | refine blk_drewN ?_ _ | refine blk_drew ?_ | refine blk_alloc ?_ _)); refine blk_far ?_ NB166_178.out _; (with_reducible repeat (first | refine blk_drewN ?_ _ | refine blk_drew ?_ | refine blk_alloc ?_ _)); refine blk_far ?_ NB166_178.out _; (with_reducible repeat (first | refine blk_drewN ?_ _ | refine blk_drew ?_ | refine blk_alloc ?_ _)); refine blk_far ?_ NB166_178.out _; (with_reducible repeat (first | refine blk_drewN ?_ _ | refine blk_drew ?_ | refine blk_alloc ?_ _)); refine blk_far ?_ NB166_178.out _; (with_reducible repeat (first | refine blk_drewN ?_ _ | refine blk_drew ?_ | refine blk_alloc ?_ _)); refine blk_far ?_ NB166_178.out _; (with_reducible repeat (first | refine blk_drewN ?_ _ | refine blk_drew ?_ | refine blk_alloc ?_ _)); refine blk_far ?_ NB166_178.out _; (with_reducible repeat (first | refine blk_drewN ?_ _ | refine blk_drew ?_ | refine blk_alloc ?_ _)); refine blk_far ?_ NB166_178.out _; (with_reducible repeat (first | refine blk_drewN ?_ _ | refine blk_drew ?_ | refine blk_alloc ?_ _)); refine blk_far ?_ NB166_178.out _; (with_reducible repeat (first | refine blk_drewN ?_ _ | refine blk_drew ?_ | refine blk_alloc ?_ _)); refine blk_far ?_ NB166_178.out _; (with_reducible repeat (first | refine blk_drewN ?_ _ | refine blk_drew ?_ | refine blk_alloc ?_ _)); exact BK166.out) hb); have n1_ := Aside0.mk (blk_below (g := gb178) (o := .cells #[.int .u8 t167, .int .u16 t168, .int .u8 t169, .string t170, .int .i64 t171, .int .i64 t172, .int .i64 t173, .int .u64 t174, .bool false, .bool t176] 42 (0, 0)) (by (with_reducible repeat (first | refine blk_drewN ?_ _ | refine blk_drew ?_ | refine blk_alloc ?_ _)); refine blk_put (cs := #[.int .u8 t167, .int .u16 t168, .int .u8 t169, .string t170, .int .i64 t171, .int .i64 t172, .int .i64 t173, .int .u64 t174, .bool false, .bool false]) ?_ 9 _ rfl; (with_reducible repeat (first | refine blk_drewN ?_ _ | refine blk_drew ?_ | refine blk_alloc ?_ _)); refine blk_put (cs := #[.int .u8 t167, .int .u16 t168, .int .u8 t169, .string t170, .int .i64 t171, .int .i64 t172, .int .i64 t173, .int .u64 t174, .bool false, .bool false]) ?_ 8 _ rfl; (with_reducible repeat (first | refine blk_drewN ?_ _ | refine blk_drew ?_ | refine blk_alloc ?_ _)); refine blk_put (cs := #[.int .u8 t167, .int .u16 t168, .int .u8 t169, .string t170, .int .i64 t171, .int .i64 t172, .int .i64 t173, .int .u64 0, .bool false, .bool false]) ?_ 7 _ rfl; (with_reducible repeat (first | refine blk_drewN ?_ _ | refine blk_drew ?_ | refine blk_alloc ?_ _)); refine blk_put (cs := #[.int .u8 t167, .int .u16 t168, .int .u8 t169, .string t170, .int .i64 t171, .int .i64 t172, .int .i64 0, .int .u64 0, .bool false, .bool false]) ?_ 6 _ rfl; (with_reducible repeat (first | refine blk_drewN ?_ _ | refine blk_drew ?_ | refine blk_alloc ?_ _)); refine blk_put (cs := #[.int .u8 t167, .int .u16 t168, .int .u8 t169, .string t170, .int .i64 t171, .int .i64 0, .int .i64 0, .int .u64 0, .bool false, .bool false]) ?_ 5 _ rfl; (with_reducible repeat (first | refine blk_drewN ?_ _ | refine blk_drew ?_ | refine blk_alloc ?_ _)); refine blk_put (cs := #[.int .u8 t167, .int .u16 t168, .int .u8 t169, .string t170, .int .i64 0, .int .i64 0, .int .i64 0, .int .u64 0, .bool false, .bool false]) ?_ 4 _ rfl; (with_reducible repeat (first | refine blk_drewN ?_ _ | refine blk_drew ?_ | refine blk_alloc ?_ _)); refine blk_put (cs := #[.int .u8 t167, .int .u16 t168, .int .u8 t169, .string (⟨#[]⟩ : ByteArray), .int .i64 0, .int .i64 0, .int .i64 0, .int .u64 0, .bool false, .bool false]) ?_ 3 _ rfl; (with_reducible repeat (first | refine blk_drewN ?_ _ | refine blk_drew ?_ | refine blk_alloc ?_ _)); refine blk_put (cs := #[.int .u8 t167, .int .u16 t168, .int .u8 0, .string (⟨#[]⟩ : ByteArray), .int .i64 0, .int .i64 0, .int .i64 0, .int .u64 0, .bool false, .bool false]) ?_ 2 _ rfl; (with_reducible repeat (first | refine blk_drewN ?_ _ | refine blk_drew ?_ | refine blk_alloc ?_ _)); refine blk_put (cs := #[.int .u8 t167, .int .u16 0, .int .u8 0, .string (⟨#[]⟩ : ByteArray), .int .i64 0, .int .i64 0, .int .i64 0, .int .u64 0, .bool false, .bool false]) ?_ 1 _ rfl; (with_reducible repeat (first | refine blk_drewN ?_ _ | refine blk_drew ?_ | refine blk_alloc ?_ _)); refine blk_put (cs := #[.int .u8 0, .int .u16 0, .int .u8 0, .string (⟨#[]⟩ : ByteArray), .int .i64 0, .int .i64 0, .int .i64 0, .int .u64 0, .bool false, .bool false]) ?_ 0 _ rfl; (with_reducible repeat (first | refine blk_drewN ?_ _ | refine blk_drew ?_ | refine blk_alloc ?_ _)); exact BK178.out) hb); have n2_ := Aside0.mk (below_step (by repeat (first | (with_reducible first | exact HB.out | apply below_alloc | apply pw_below_drewN | apply below_drew1 | refine below_set ?_ GE166.out | refine below_set ?_ GE178.out) | exact HB.out)) hb); clear BK166; clear BK178; clear HB; have BK166 := n0_; have BK178 := n1_; have HB := n2_; clear n0_ n1_ n2_; (try clear hb); (try clear hb2); (try clear hk); (try clear hi)) | ((with_reducible refine gate_dst (N := 5) rfl ?_); (try (refine gate_guard (by rfl) ?_; dsimp only)); refine box_event ?hg (N := 5) ?hd (cs := #[.int .u8 0, .int .u16 0, .int .u8 0, .string (⟨#[]⟩ : ByteArray), .int .i64 0, .int .i64 0, .int .i64 0, .int .u64 0, .bool false, .bool false]) (t := 42) ?hr ?_; (case hd => rfl); (case hg => rfl); (case hr => first | (go_simp; done) | (go_simp; rfl)); intro gb190 hg w20 hbox hb; have n0_ := Aside0.mk (blk_below (g := gb166) (o := .cells #[.int .u8 t155, .int .u16 t156, .int .u8 t157, .string t158, .int .i64 t159, .int .i64 t160, .int .i64 t161, .int .u64 t162, .bool t163, .bool t164] 42 (0, 0)) (by (with_reducible repeat (first | refine blk_drewN ?_ _ | refine blk_drew ?_ | refine blk_alloc ?_ _)); exact BK166.out) hb); have n1_ := Aside0.mk (blk_below (g := gb178) (o := .cells #[.int .u8 t167, .int .u16 t168, .int .u8 t169, .string t170, .int .i64 t171, .int .i64 t172, .int .i64 t173, .int .u64 t174, .bool false, .bool t176] 42 (0, 0)) (by (with_reducible repeat (first | refine blk_drewN ?_ _ | refine blk_drew ?_ | refine blk_alloc ?_ _)); exact BK178.out) hb); have n2_ := Aside0.mk (below_step (by repeat (first | (with_reducible first | exact HB.out | apply below_alloc | apply pw_below_drewN | apply below_drew1 | refine below_set ?_ GE166.out | refine below_set ?_ GE178.out) | exact HB.out)) hb); have n3_ := Aside0.mk (hbox); have n4_ := Aside0.mk ((by rw [hg]; exact (below_size (by repeat (first | (with_reducible first | exact HB.out | apply below_alloc | apply pw_below_drewN | apply below_drew1 | refine below_set ?_ GE166.out | refine below_set ?_ GE178.out) | exact HB.out))) : w.heap.size ≤ gb190)); have n5_ := Aside0.mk ((by rw [hg]; exact (below_size (by repeat (first | (with_reducible first | exact HB.out | apply below_alloc | apply pw_below_drewN | apply below_drew1 | refine below_set ?_ GE166.out | refine below_set ?_ GE178.out) | exact HB.out))) : w.heap.size ≤ gb190)); have n6_ := Aside0.mk ((by rw [hg]; exact Nat.ne_of_lt (blk_lt (g := gb166) (o := .cells #[.int .u8 t155, .int .u16 t156, .int .u8 t157, .string t158, .int .i64 t159, .int .i64 t160, .int .i64 t161, .int .u64 t162, .bool t163, .bool t164] 42 (0, 0)) (by (with_reducible repeat (first | refine blk_drewN ?_ _ | refine blk_drew ?_ | refine blk_alloc ?_ _)); exact BK166.out)) : gb166 ≠ gb190)); have n7_ := Aside0.mk ((by rw [hg]; exact Nat.ne_of_gt (blk_lt (g := gb166) (o := .cells #[.int .u8 t155, .int .u16 t156, .int .u8 t157, .string t158, .int .i64 t159, .int .i64 t160, .int .i64 t161, .int .u64 t162, .bool t163, .bool t164] 42 (0, 0)) (by (with_reducible repeat (first | refine blk_drewN ?_ _ | refine blk_drew ?_ | refine blk_alloc ?_ _)); exact BK166.out)) : gb190 ≠ gb166)); have n8_ := Aside0.mk ((by rw [hg]; exact Nat.ne_of_lt (blk_lt (g := gb178) (o := .cells #[.int .u8 t167, .int .u16 t168, .int .u8 t169, .string t170, .int .i64 t171, .int .i64 t172, .int .i64 t173, .int .u64 t174, .bool false, .bool t176] 42 (0, 0)) (by (with_reducible repeat (first | refine blk_drewN ?_ _ | refine blk_drew ?_ | refine blk_alloc ?_ _)); exact BK178.out)) : gb178 ≠ gb190)); have n9_ := Aside0.mk ((by rw [hg]; exact Nat.ne_of_gt (blk_lt (g := gb178) (o := .cells #[.int .u8 t167, .int .u16 t168, .int .u8 t169, .string t170, .int .i64 t171, .int .i64 t172, .int .i64 t173, .int .u64 t174, .bool false, .bool t176] 42 (0, 0)) (by (with_reducible repeat (first | refine blk_drewN ?_ _ | refine blk_drew ?_ | refine blk_alloc ?_ _)); exact BK178.out)) : gb190 ≠ gb178)); clear BK166; clear BK178; clear HB; have BK166 := n0_; have BK178 := n1_; have HB := n2_; have BK190 := n3_; have GW190 := n4_; have GE190 := n5_; have NB166_190 := n6_; have NB190_166 := n7_; have NB178_190 := n8_; have NB190_178 := n9_; clear n0_ n1_ n2_ n3_ n4_ n5_ n6_ n7_ n8_ n9_; clear hb hbox hg; have hnb21 := NB190_166.out; have hnc21 := NB166_190.out; have hnb22 := NB190_178.out; have hnc22 := NB178_190.out; have hcz23_0 : w20.cell? ⟨gb190, 0, none⟩ = some (.int .u8 0) := (blk_cell BK190.out 0).trans rfl; have hcz23_1 : w20.cell? ⟨gb190, 1, none⟩ = some (.int .u16 0) := (blk_cell BK190.out 1).trans rfl; have hcz23_2 : w20.cell? ⟨gb190, 2, none⟩ = some (.int .u8 0) := (blk_cell BK190.out 2).trans rfl; have hcz23_3 : w20.cell? ⟨gb190, 3, none⟩ = some (.string (⟨#[]⟩ : ByteArray)) := (blk_cell BK190.out 3).trans rfl; have hcz23_4 : w20.cell? ⟨gb190, 4, none⟩ = some (.int .i64 0) := (blk_cell BK190.out 4).trans rfl; have hcz23_5 : w20.cell? ⟨gb190, 5, none⟩ = some (.int .i64 0) := (blk_cell BK190.out 5).trans rfl; have hcz23_6 : w20.cell? ⟨gb190, 6, none⟩ = some (.int .i64 0) := (blk_cell BK190.out 6).trans rfl; have hcz23_7 : w20.cell? ⟨gb190, 7, none⟩ = some (.int .u64 0) := (blk_cell BK190.out 7).trans rfl; have hcz23_8 : w20.cell? ⟨gb190, 8, none⟩ = some (.bool false) := (blk_cell BK190.out 8).trans rfl; have hcz23_9 : w20.cell? ⟨gb190, 9, none⟩ = some (.bool false) := (blk_cell BK190.out 9).trans rfl; have hfz23_0 := blk_frozen BK190.out 0; have hfz23_1 := blk_frozen BK190.out 1; have hfz23_2 := blk_frozen BK190.out 2; have hfz23_3 := blk_frozen BK190.out 3; have hfz23_4 := blk_frozen BK190.out 4; have hfz23_5 := blk_frozen BK190.out 5; have hfz23_6 := blk_frozen BK190.out 6; have hfz23_7 := blk_frozen BK190.out 7; have hfz23_8 := blk_frozen BK190.out 8; have hfz23_9 := blk_frozen BK190.out 9) | ((with_reducible refine gate_callee (f := 37) rfl ?_); refine goesL_ (some 22) rfl rfl Try.func37 (by kernel_rfl) rfl #[] rfl (by (try simp only [List.map_toArray, List.map_cons, List.map_nil]); first | done | rfl | (simp only [List.length_drop, List.length_take]; rfl)) ?_; (with_reducible refine (carousellaw06_Awake.calls k  true _ A5.out).mono ?_); rintro e w24 ⟨rfl, hb⟩; refine ⟨_, rfl, ?_⟩; have n0_ := Aside0.mk (blk_below (g := gb166) (o := .cells #[.int .u8 t155, .int .u16 t156, .int .u8 t157, .string t158, .int .i64 t159, .int .i64 t160, .int .i64 t161, .int .u64 t162, .bool t163, .bool t164] 42 (0, 0)) (by (with_reducible repeat (first | refine blk_drewN ?_ _ | refine blk_drew ?_ | refine blk_alloc ?_ _)); refine blk_far ?_ NB166_190.out _; (with_reducible repeat (first | refine blk_drewN ?_ _ | refine blk_drew ?_ | refine blk_alloc ?_ _)); refine blk_far ?_ NB166_190.out _; (with_reducible repeat (first | refine blk_drewN ?_ _ | refine blk_drew ?_ | refine blk_alloc ?_ _)); refine blk_far ?_ NB166_190.out _; (with_reducible repeat (first | refine blk_drewN ?_ _ | refine blk_drew ?_ | refine blk_alloc ?_ _)); refine blk_far ?_ NB166_190.out _; (with_reducible repeat (first | refine blk_drewN ?_ _ | refine blk_drew ?_ | refine blk_alloc ?_ _)); refine blk_far ?_ NB166_190.out _; (with_reducible repeat (first | refine blk_drewN ?_ _ | refine blk_drew ?_ | refine blk_alloc ?_ _)); refine blk_far ?_ NB166_190.out _; (with_reducible repeat (first | refine blk_drewN ?_ _ | refine blk_drew ?_ | refine blk_alloc ?_ _)); refine blk_far ?_ NB166_190.out _; (with_reducible repeat (first | refine blk_drewN ?_ _ | refine blk_drew ?_ | refine blk_alloc ?_ _)); refine blk_far ?_ NB166_190.out _; (with_reducible repeat (first | refine blk_drewN ?_ _ | refine blk_drew ?_ | refine blk_alloc ?_ _)); refine blk_far ?_ NB166_190.out _; (with_reducible repeat (first | refine blk_drewN ?_ _ | refine blk_drew ?_ | refine blk_alloc ?_ _)); refine blk_far ?_ NB166_190.out _; (with_reducible repeat (first | refine blk_drewN ?_ _ | refine blk_drew ?_ | refine blk_alloc ?_ _)); exact BK166.out) hb); have n1_ := Aside0.mk (blk_below (g := gb178) (o := .cells #[.int .u8 t167, .int .u16 t168, .int .u8 t169, .string t170, .int .i64 t171, .int .i64 t172, .int .i64 t173, .int .u64 t174, .bool false, .bool t176] 42 (0, 0)) (by (with_reducible repeat (first | refine blk_drewN ?_ _ | refine blk_drew ?_ | refine blk_alloc ?_ _)); refine blk_far ?_ NB178_190.out _; (with_reducible repeat (first | refine blk_drewN ?_ _ | refine blk_drew ?_ | refine blk_alloc ?_ _)); refine blk_far ?_ NB178_190.out _; (with_reducible repeat (first | refine blk_drewN ?_ _ | refine blk_drew ?_ | refine blk_alloc ?_ _)); refine blk_far ?_ NB178_190.out _; (with_reducible repeat (first | refine blk_drewN ?_ _ | refine blk_drew ?_ | refine blk_alloc ?_ _)); refine blk_far ?_ NB178_190.out _; (with_reducible repeat (first | refine blk_drewN ?_ _ | refine blk_drew ?_ | refine blk_alloc ?_ _)); refine blk_far ?_ NB178_190.out _; (with_reducible repeat (first | refine blk_drewN ?_ _ | refine blk_drew ?_ | refine blk_alloc ?_ _)); refine blk_far ?_ NB178_190.out _; (with_reducible repeat (first | refine blk_drewN ?_ _ | refine blk_drew ?_ | refine blk_alloc ?_ _)); refine blk_far ?_ NB178_190.out _; (with_reducible repeat (first | refine blk_drewN ?_ _ | refine blk_drew ?_ | refine blk_alloc ?_ _)); refine blk_far ?_ NB178_190.out _; (with_reducible repeat (first | refine blk_drewN ?_ _ | refine blk_drew ?_ | refine blk_alloc ?_ _)); refine blk_far ?_ NB178_190.out _; (with_reducible repeat (first | refine blk_drewN ?_ _ | refine blk_drew ?_ | refine blk_alloc ?_ _)); refine blk_far ?_ NB178_190.out _; (with_reducible repeat (first | refine blk_drewN ?_ _ | refine blk_drew ?_ | refine blk_alloc ?_ _)); exact BK178.out) hb); have n2_ := Aside0.mk (blk_below (g := gb190) (o := .cells #[.int .u8 t179, .int .u16 t180, .int .u8 t181, .string t182, .int .i64 t183, .int .i64 t184, .int .i64 t185, .int .u64 t186, .bool true, .bool t188] 42 (0, 0)) (by (with_reducible repeat (first | refine blk_drewN ?_ _ | refine blk_drew ?_ | refine blk_alloc ?_ _)); refine blk_put (cs := #[.int .u8 t179, .int .u16 t180, .int .u8 t181, .string t182, .int .i64 t183, .int .i64 t184, .int .i64 t185, .int .u64 t186, .bool true, .bool false]) ?_ 9 _ rfl; (with_reducible repeat (first | refine blk_drewN ?_ _ | refine blk_drew ?_ | refine blk_alloc ?_ _)); refine blk_put (cs := #[.int .u8 t179, .int .u16 t180, .int .u8 t181, .string t182, .int .i64 t183, .int .i64 t184, .int .i64 t185, .int .u64 t186, .bool false, .bool false]) ?_ 8 _ rfl; (with_reducible repeat (first | refine blk_drewN ?_ _ | refine blk_drew ?_ | refine blk_alloc ?_ _)); refine blk_put (cs := #[.int .u8 t179, .int .u16 t180, .int .u8 t181, .string t182, .int .i64 t183, .int .i64 t184, .int .i64 t185, .int .u64 0, .bool false, .bool false]) ?_ 7 _ rfl; (with_reducible repeat (first | refine blk_drewN ?_ _ | refine blk_drew ?_ | refine blk_alloc ?_ _)); refine blk_put (cs := #[.int .u8 t179, .int .u16 t180, .int .u8 t181, .string t182, .int .i64 t183, .int .i64 t184, .int .i64 0, .int .u64 0, .bool false, .bool false]) ?_ 6 _ rfl; (with_reducible repeat (first | refine blk_drewN ?_ _ | refine blk_drew ?_ | refine blk_alloc ?_ _)); refine blk_put (cs := #[.int .u8 t179, .int .u16 t180, .int .u8 t181, .string t182, .int .i64 t183, .int .i64 0, .int .i64 0, .int .u64 0, .bool false, .bool false]) ?_ 5 _ rfl; (with_reducible repeat (first | refine blk_drewN ?_ _ | refine blk_drew ?_ | refine blk_alloc ?_ _)); refine blk_put (cs := #[.int .u8 t179, .int .u16 t180, .int .u8 t181, .string t182, .int .i64 0, .int .i64 0, .int .i64 0, .int .u64 0, .bool false, .bool false]) ?_ 4 _ rfl; (with_reducible repeat (first | refine blk_drewN ?_ _ | refine blk_drew ?_ | refine blk_alloc ?_ _)); refine blk_put (cs := #[.int .u8 t179, .int .u16 t180, .int .u8 t181, .string (⟨#[]⟩ : ByteArray), .int .i64 0, .int .i64 0, .int .i64 0, .int .u64 0, .bool false, .bool false]) ?_ 3 _ rfl; (with_reducible repeat (first | refine blk_drewN ?_ _ | refine blk_drew ?_ | refine blk_alloc ?_ _)); refine blk_put (cs := #[.int .u8 t179, .int .u16 t180, .int .u8 0, .string (⟨#[]⟩ : ByteArray), .int .i64 0, .int .i64 0, .int .i64 0, .int .u64 0, .bool false, .bool false]) ?_ 2 _ rfl; (with_reducible repeat (first | refine blk_drewN ?_ _ | refine blk_drew ?_ | refine blk_alloc ?_ _)); refine blk_put (cs := #[.int .u8 t179, .int .u16 0, .int .u8 0, .string (⟨#[]⟩ : ByteArray), .int .i64 0, .int .i64 0, .int .i64 0, .int .u64 0, .bool false, .bool false]) ?_ 1 _ rfl; (with_reducible repeat (first | refine blk_drewN ?_ _ | refine blk_drew ?_ | refine blk_alloc ?_ _)); refine blk_put (cs := #[.int .u8 0, .int .u16 0, .int .u8 0, .string (⟨#[]⟩ : ByteArray), .int .i64 0, .int .i64 0, .int .i64 0, .int .u64 0, .bool false, .bool false]) ?_ 0 _ rfl; (with_reducible repeat (first | refine blk_drewN ?_ _ | refine blk_drew ?_ | refine blk_alloc ?_ _)); exact BK190.out) hb); have n3_ := Aside0.mk (below_step (by repeat (first | (with_reducible first | exact HB.out | apply below_alloc | apply pw_below_drewN | apply below_drew1 | refine below_set ?_ GE166.out | refine below_set ?_ GE178.out | refine below_set ?_ GE190.out) | exact HB.out)) hb); clear BK166; clear BK178; clear BK190; clear HB; have BK166 := n0_; have BK178 := n1_; have BK190 := n2_; have HB := n3_; clear n0_ n1_ n2_ n3_; (try clear hb); (try clear hb2); (try clear hk); (try clear hi); have hcz25_0 : w24.cell? ⟨gb178, 0, none⟩ = some (.int .u8 t167) := (blk_cell BK178.out 0).trans rfl; have hcz25_1 : w24.cell? ⟨gb178, 1, none⟩ = some (.int .u16 t168) := (blk_cell BK178.out 1).trans rfl; have hcz25_2 : w24.cell? ⟨gb178, 2, none⟩ = some (.int .u8 t169) := (blk_cell BK178.out 2).trans rfl; have hcz25_3 : w24.cell? ⟨gb178, 3, none⟩ = some (.string t170) := (blk_cell BK178.out 3).trans rfl; have hcz25_4 : w24.cell? ⟨gb178, 4, none⟩ = some (.int .i64 t171) := (blk_cell BK178.out 4).trans rfl; have hcz25_5 : w24.cell? ⟨gb178, 5, none⟩ = some (.int .i64 t172) := (blk_cell BK178.out 5).trans rfl; have hcz25_6 : w24.cell? ⟨gb178, 6, none⟩ = some (.int .i64 t173) := (blk_cell BK178.out 6).trans rfl; have hcz25_7 : w24.cell? ⟨gb178, 7, none⟩ = some (.int .u64 t174) := (blk_cell BK178.out 7).trans rfl; have hcz25_8 : w24.cell? ⟨gb178, 8, none⟩ = some (.bool false) := (blk_cell BK178.out 8).trans rfl; have hcz25_9 : w24.cell? ⟨gb178, 9, none⟩ = some (.bool t176) := (blk_cell BK178.out 9).trans rfl; have hfz25_0 := blk_frozen BK178.out 0; have hfz25_1 := blk_frozen BK178.out 1; have hfz25_2 := blk_frozen BK178.out 2; have hfz25_3 := blk_frozen BK178.out 3; have hfz25_4 := blk_frozen BK178.out 4; have hfz25_5 := blk_frozen BK178.out 5; have hfz25_6 := blk_frozen BK178.out 6; have hfz25_7 := blk_frozen BK178.out 7; have hfz25_8 := blk_frozen BK178.out 8; have hfz25_9 := blk_frozen BK178.out 9; have hcz26_0 : w24.cell? ⟨gb190, 0, none⟩ = some (.int .u8 t179) := (blk_cell BK190.out 0).trans rfl; have hcz26_1 : w24.cell? ⟨gb190, 1, none⟩ = some (.int .u16 t180) := (blk_cell BK190.out 1).trans rfl; have hcz26_2 : w24.cell? ⟨gb190, 2, none⟩ = some (.int .u8 t181) := (blk_cell BK190.out 2).trans rfl; have hcz26_3 : w24.cell? ⟨gb190, 3, none⟩ = some (.string t182) := (blk_cell BK190.out 3).trans rfl; have hcz26_4 : w24.cell? ⟨gb190, 4, none⟩ = some (.int .i64 t183) := (blk_cell BK190.out 4).trans rfl; have hcz26_5 : w24.cell? ⟨gb190, 5, none⟩ = some (.int .i64 t184) := (blk_cell BK190.out 5).trans rfl; have hcz26_6 : w24.cell? ⟨gb190, 6, none⟩ = some (.int .i64 t185) := (blk_cell BK190.out 6).trans rfl; have hcz26_7 : w24.cell? ⟨gb190, 7, none⟩ = some (.int .u64 t186) := (blk_cell BK190.out 7).trans rfl; have hcz26_8 : w24.cell? ⟨gb190, 8, none⟩ = some (.bool true) := (blk_cell BK190.out 8).trans rfl; have hcz26_9 : w24.cell? ⟨gb190, 9, none⟩ = some (.bool t188) := (blk_cell BK190.out 9).trans rfl; have hfz26_0 := blk_frozen BK190.out 0; have hfz26_1 := blk_frozen BK190.out 1; have hfz26_2 := blk_frozen BK190.out 2; have hfz26_3 := blk_frozen BK190.out 3; have hfz26_4 := blk_frozen BK190.out 4; have hfz26_5 := blk_frozen BK190.out 5; have hfz26_6 := blk_frozen BK190.out 6; have hfz26_7 := blk_frozen BK190.out 7; have hfz26_8 := blk_frozen BK190.out 8; have hfz26_9 := blk_frozen BK190.out 9))
          go_ret
          exact ⟨by first | rfl | (simp [errW_none, errW_some] <;> rfl) | (simp [*, errW_none, errW_some] <;> rfl), by repeat (first | (with_reducible first | exact HB.out | apply below_alloc | apply pw_below_drewN | apply below_drew1 | refine below_set ?_ GE166.out | refine below_set ?_ GE178.out | refine below_set ?_ GE190.out) | exact HB.out)⟩
        · replace c9 := Bool.eq_false_iff.mpr c9
          subst c9
          have H1 : (some false) = some r := by rw [if_neg (show ¬ (false = true) by decide)] at H; exact H
          clear H
          have H := H1
          clear H1
          cases (Option.some.inj H).trans hT
    · rw [if_neg c7] at H
      have c7b0 : (t165 == 0) = false := beq_eq_false_iff_ne.mpr c7
      have c7b1 : (t165 != 0) = true := bne_iff_ne.mpr c7
      cases (Option.some.inj H).trans hT
  · replace c6 := Bool.eq_false_iff.mpr c6
    subst c6
    have H1 : (some false) = some r := by rw [if_neg (show ¬ (false = true) by decide)] at H; exact H
    clear H
    have H := H1
    clear H1
    cases (Option.some.inj H).trans hT

/-! ### field_sum: function 67 -/
def field_sum.l0 : Nat → Int → List Int → Int → Int → Option (Int)
  | 0, _, _, _, _ => none
  | k + 1, x3, x6, x7, x8 => if x8 < x7 then (if 0 ≤ x8 then (if x8 < (x6.length : Int) then ((field_may.f (rd x6 x8)).bind fun t193 => (if t193 = true then (field_sum.l0 k (wrap64 (x3 + (rd x6 x8))) x6 x7 (wrap64 (x8 + 1))) else (some (-1)))) else (none)) else (none)) else (some x3)
def field_sum.f (k : Nat) (l0 : List Int) : Option (Int) := field_sum.l0 k 0 l0 (l0.length : Int) 0
theorem field_sum.mono_l : ∀ k, (∀ y0 y1 y2 y3, LeO (field_sum.l0 k y0 y1 y2 y3) (field_sum.l0 (k + 1) y0 y1 y2 y3))
  | 0 => fun _ _ _ _ r h => by simp [field_sum.l0] at h
  | k + 1 => by
    have ih0 := field_sum.mono_l k
    · intro y0 y1 y2 y3
      unfold field_sum.l0
      repeat' first
      | (with_reducible exact ih0 _ _ _ _)
      | (with_reducible exact LeO.refl _)
      | (with_reducible exact LeO.none _)
      | (with_reducible refine LeO.ite ?_ ?_)
      | (with_reducible refine LeO.bind ?_ (fun _ => ?_))
      | exact ih0 _ _ _ _
      | exact LeO.none _
      | refine LeO.ite ?_ ?_
      | refine LeO.bind ?_ (fun _ => ?_)
theorem field_sum.mono : ∀ a0 k, LeO (field_sum.f k a0) (field_sum.f (k + 1) a0) := by
  intro a0 k
  have ih0 := field_sum.mono_l k
  unfold field_sum.f
  repeat' first
      | (with_reducible exact ih0 _ _ _ _)
      | (with_reducible exact LeO.refl _)
      | (with_reducible exact LeO.none _)
      | (with_reducible refine LeO.ite ?_ ?_)
      | (with_reducible refine LeO.bind ?_ (fun _ => ?_))
      | exact ih0 _ _ _ _
      | exact LeO.none _
      | refine LeO.ite ?_ ?_
      | refine LeO.bind ?_ (fun _ => ?_)
set_option maxHeartbeats 8000000 in
set_option maxRecDepth 100000 in
theorem field_sum.calls (k : Nat) (A0 : Option Addr) (c0 : Nat) (l0 : List Int) (r : Int) (w : World) (hr0 : Kd.C (Kd.int .i64) w A0 l0.length l0) (hc0 : l0.length ≤ c0) (h : field_sum.f k l0 = some r) :
    Calls Try.prog 67 #[.slice A0 l0.length c0] w fun e w' => e = .returned (.int .i64 r) ∧ Drawn0 w w' := by
  have HR0 := Aside0.mk hr0
  have HC0 := Aside0.mk hc0
  clear hr0 hc0
  have H : (field_sum.l0 k 0 l0 (l0.length : Int) 0) = some r := h
  clear h
  have H' := Aside0.mk H
  clear H
  go_enter Try.func67, Try.ntmps67
  go_wp2
  go_loopg [3, 8] k (fun kq v3 v8 w' => ∃ (x3_1 : Int) (x8_1 : Int), v3 = .int .i64 x3_1 ∧ v8 = .int .i64 x8_1 ∧ Aside0 (field_sum.l0 kq x3_1 l0 (l0.length : Int) x8_1 = some r) ∧ Aside0 (kq ≤ k) ∧ Drawn0 w w')
  case atStart => exact ⟨(0), (0), (by first | rfl | (simp; done) | (simp [*]; done)), (by first | rfl | (simp; done) | (simp [*]; done)), H', ⟨Nat.le_refl _⟩, by repeat (first | exact Drawn0.refl _ | apply Drawn0.step)⟩
  case round =>
    clear H'
    obtain ⟨x3_1, x8_1, rfl, rfl, HA, HK1, ⟨m1, rfl⟩⟩ := hrel
    cases gk with
    | zero => exact absurd HA.out (by simp [field_sum.l0])
    | succ k1 =>
      have H := HA.out
      clear HA
      simp only [field_sum.l0] at H
      by_cases c2 : x8_1 < (l0.length : Int)
      · rw [if_pos c2] at H
        have c2b0 : decide (x8_1 < (l0.length : Int)) = true := decide_eq_true c2
        clear c2
        by_cases c3 : 0 ≤ x8_1
        · rw [if_pos c3] at H
          have c3b0 : decide (0 ≤ x8_1) = true := decide_eq_true c3
          clear c3
          by_cases c4 : x8_1 < (l0.length : Int)
          · rw [if_pos c4] at H
            have c4b0 : decide (x8_1 < (l0.length : Int)) = true := decide_eq_true c4
            clear c4
            replace H := Option.bind_eq_some_iff.mp H
            obtain ⟨t193, A50, H⟩ := H
            replace H : (if t193 = true then (field_sum.l0 k1 (wrap64 (x3_1 + (rd l0 x8_1))) l0 (l0.length : Int) (wrap64 (x8_1 + 1))) else (some (-1))) = some r := H
            have A5 := Aside0.mk A50
            clear A50
            by_cases c6 : t193 = true
            · subst c6
              have H1 : (field_sum.l0 k1 (wrap64 (x3_1 + (rd l0 x8_1))) l0 (l0.length : Int) (wrap64 (x8_1 + 1))) = some r := by rw [if_pos rfl] at H; exact H
              clear H
              have H := H1
              clear H1
              have H' := Aside0.mk H
              clear H
              have p192 : 0 ≤ (x8_1 : Int) := of_decide_eq_true (by first | (with_reducible assumption) | assumption)
              have q192 : x8_1 < (l0.length : Int) := of_decide_eq_true (by first | (with_reducible assumption) | assumption)
              obtain ⟨ad192, e192, hx192_0⟩ := Kd.at_int HR0.out x8_1 p192 q192
              cases e192
              replace p192 := eq_true p192
              replace q192 := eq_true q192
              go_wp2_with (first | ((with_reducible refine gate_callee (f := 69) rfl ?_); refine goesL_ (some 13) rfl rfl Try.func69 (by kernel_rfl) rfl #[.int .i64 (rd l0 x8_1)] rfl (by (try simp only [List.map_toArray, List.map_cons, List.map_nil]); first | done | rfl | (simp only [List.length_drop, List.length_take]; rfl)) ?_; (with_reducible refine (field_may.calls (rd l0 x8_1) true _ A5.out).mono ?_); rintro e w' ⟨rfl, ⟨nd, rfl⟩⟩; refine ⟨_, rfl, ?_⟩))
              go_roundg k1
              case measure => have := HK1.out; omega
              case rel => exact ⟨(wrap64 (x3_1 + (rd l0 x8_1))), (wrap64 (x8_1 + 1)), (by first | rfl | (simp; done) | (simp [*]; done)), (by first | rfl | (simp; done) | (simp [*]; done)), H', ⟨by have := HK1.out; omega⟩, by repeat (first | exact Drawn0.refl _ | apply Drawn0.step)⟩
            · replace c6 := Bool.eq_false_iff.mpr c6
              subst c6
              have H1 : (some (-1)) = some r := by rw [if_neg (show ¬ (false = true) by decide)] at H; exact H
              clear H
              have H := H1
              clear H1
              obtain rfl := Option.some.inj H
              have p192 : 0 ≤ (x8_1 : Int) := of_decide_eq_true (by first | (with_reducible assumption) | assumption)
              have q192 : x8_1 < (l0.length : Int) := of_decide_eq_true (by first | (with_reducible assumption) | assumption)
              obtain ⟨ad192, e192, hx192_0⟩ := Kd.at_int HR0.out x8_1 p192 q192
              cases e192
              replace p192 := eq_true p192
              replace q192 := eq_true q192
              go_wp2_with (first | ((with_reducible refine gate_callee (f := 69) rfl ?_); refine goesL_ (some 13) rfl rfl Try.func69 (by kernel_rfl) rfl #[.int .i64 (rd l0 x8_1)] rfl (by (try simp only [List.map_toArray, List.map_cons, List.map_nil]); first | done | rfl | (simp only [List.length_drop, List.length_take]; rfl)) ?_; (with_reducible refine (field_may.calls (rd l0 x8_1) false _ A5.out).mono ?_); rintro e w' ⟨rfl, ⟨nd, rfl⟩⟩; refine ⟨_, rfl, ?_⟩))
              go_ret
              exact ⟨by first | rfl | (simp; done) | (simp [*]; done), by repeat (first | exact Drawn0.refl _ | apply Drawn0.step)⟩
          · rw [if_neg c4] at H
            exact absurd H (by simp)
        · rw [if_neg c3] at H
          exact absurd H (by simp)
      · rw [if_neg c2] at H
        have c2b0 : decide (x8_1 < (l0.length : Int)) = false := decide_eq_false c2
        clear c2
        obtain rfl := Option.some.inj H
        go_wp2
        go_ret
        exact ⟨by first | rfl | (simp; done) | (simp [*]; done), by repeat (first | exact Drawn0.refl _ | apply Drawn0.step)⟩

/-! ### field_Split: function 45 -/
mutual
def field_Split.l0 : Nat → ByteArray → Int → List Int → Int → List Int → Int → Int → Option (List Int × ByteArray × Int)
  | 0, _, _, _, _, _, _, _ => none
  | k + 1, x0, x7, x8, x9, x28, x29, x30 => if x30 < x29 then (if 0 ≤ x30 then (if x30 < (x28.length : Int) then (field_Split.l1 k x0 x7 x8 x9 0 x28 x29 x30 (rd x28 x30) 0) else (none)) else (none)) else (if 0 ≤ (wrap64 (Int.tdiv x7 8)) then (if (wrap64 (Int.tdiv x7 8)) ≤ (x0.size : Int) then (some (x8, x0.extract ((wrap64 (Int.tdiv x7 8)) : Int).toNat x0.size, 0)) else (none)) else (none))
def field_Split.l1 : Nat → ByteArray → Int → List Int → Int → Int → List Int → Int → Int → Int → Int → Option (List Int × ByteArray × Int)
  | 0, _, _, _, _, _, _, _, _, _, _ => none
  | k + 1, x0, x7, x8, x9, x12, x28, x29, x30, x34, x35 => if x35 < x34 then (if 0 ≤ (wrap64 (Int.tdiv x9 8)) then (if (wrap64 (Int.tdiv x9 8)) < (x0.size : Int) then (if 0 ≤ (wrap64 (7 - (Int.tmod x9 8))) then (field_Split.l1 k x0 x7 x8 (wrap64 (x9 + 1)) (Go.bits .or .u64 (IntKind.u64.wrap (x12 * 2)) (IntKind.u64.wrap (Go.bits .and .u8 (shr .u8 (bt x0 (wrap64 (Int.tdiv x9 8))) (wrap64 (7 - (Int.tmod x9 8)))) 1))) x28 x29 x30 x34 (wrap64 (x35 + 1))) else (none)) else (none)) else (none)) else (if x8.length < 17592186044416 then (field_Split.l0 k x0 x7 (x8 ++ [x12]) x9 x28 x29 (wrap64 (x30 + 1))) else (none))
end
def field_Split.f (k : Nat) (a0 : ByteArray) (l1 : List Int) : Option (List Int × ByteArray × Int) := (field_sum.f k l1).bind fun t194 => (if t194 < 0 then (some (([] : List Int), (⟨#[]⟩ : ByteArray), 4)) else (if (Int.tmod t194 8) = 0 then (if (wrap64 (Int.tdiv t194 8)) > (a0.size : Int) then (some (([] : List Int), (⟨#[]⟩ : ByteArray), 1)) else (field_Split.l0 k a0 t194 ([] : List Int) 0 l1 (l1.length : Int) 0)) else (some (([] : List Int), (⟨#[]⟩ : ByteArray), 3))))
theorem field_Split.mono_l : ∀ k, (∀ y0 y1 y2 y3 y4 y5 y6, LeO (field_Split.l0 k y0 y1 y2 y3 y4 y5 y6) (field_Split.l0 (k + 1) y0 y1 y2 y3 y4 y5 y6)) ∧ (∀ y0 y1 y2 y3 y4 y5 y6 y7 y8 y9, LeO (field_Split.l1 k y0 y1 y2 y3 y4 y5 y6 y7 y8 y9) (field_Split.l1 (k + 1) y0 y1 y2 y3 y4 y5 y6 y7 y8 y9))
  | 0 => ⟨fun _ _ _ _ _ _ _ r h => by simp [field_Split.l0] at h, fun _ _ _ _ _ _ _ _ _ _ r h => by simp [field_Split.l1] at h⟩
  | k + 1 => by
    obtain ⟨ih0, ih1⟩ := field_Split.mono_l k
    refine ⟨?_, ?_⟩
    · intro y0 y1 y2 y3 y4 y5 y6
      unfold field_Split.l0
      repeat' first
      | (with_reducible exact ih0 _ _ _ _ _ _ _)
      | (with_reducible exact ih1 _ _ _ _ _ _ _ _ _ _)
      | (with_reducible exact field_sum.mono _ _)
      | (with_reducible exact LeO.refl _)
      | (with_reducible exact LeO.none _)
      | (with_reducible refine LeO.ite ?_ ?_)
      | (with_reducible refine LeO.bind ?_ (fun _ => ?_))
      | exact ih0 _ _ _ _ _ _ _
      | exact ih1 _ _ _ _ _ _ _ _ _ _
      | exact field_sum.mono _ _
      | exact LeO.none _
      | refine LeO.ite ?_ ?_
      | refine LeO.bind ?_ (fun _ => ?_)
    · intro y0 y1 y2 y3 y4 y5 y6 y7 y8 y9
      unfold field_Split.l1
      repeat' first
      | (with_reducible exact ih0 _ _ _ _ _ _ _)
      | (with_reducible exact ih1 _ _ _ _ _ _ _ _ _ _)
      | (with_reducible exact field_sum.mono _ _)
      | (with_reducible exact LeO.refl _)
      | (with_reducible exact LeO.none _)
      | (with_reducible refine LeO.ite ?_ ?_)
      | (with_reducible refine LeO.bind ?_ (fun _ => ?_))
      | exact ih0 _ _ _ _ _ _ _
      | exact ih1 _ _ _ _ _ _ _ _ _ _
      | exact field_sum.mono _ _
      | exact LeO.none _
      | refine LeO.ite ?_ ?_
      | refine LeO.bind ?_ (fun _ => ?_)
theorem field_Split.mono : ∀ a0 a1 k, LeO (field_Split.f k a0 a1) (field_Split.f (k + 1) a0 a1) := by
  intro a0 a1 k
  obtain ⟨ih0, ih1⟩ := field_Split.mono_l k
  unfold field_Split.f
  repeat' first
      | (with_reducible exact ih0 _ _ _ _ _ _ _)
      | (with_reducible exact ih1 _ _ _ _ _ _ _ _ _ _)
      | (with_reducible exact field_sum.mono _ _)
      | (with_reducible exact LeO.refl _)
      | (with_reducible exact LeO.none _)
      | (with_reducible refine LeO.ite ?_ ?_)
      | (with_reducible refine LeO.bind ?_ (fun _ => ?_))
      | exact ih0 _ _ _ _ _ _ _
      | exact ih1 _ _ _ _ _ _ _ _ _ _
      | exact field_sum.mono _ _
      | exact LeO.none _
      | refine LeO.ite ?_ ?_
      | refine LeO.bind ?_ (fun _ => ?_)
set_option maxHeartbeats 8000000 in
set_option maxRecDepth 100000 in
theorem field_Split.calls (k : Nat) (a0 : ByteArray) (A1 : Option Addr) (c1 : Nat) (l1 : List Int) (r1 : List Int) (r2 : ByteArray) (r3 : Int) (w : World) (hr1 : Kd.C (Kd.int .i64) w A1 l1.length l1) (hc1 : l1.length ≤ c1) (h : field_Split.f k a0 l1 = some (r1, r2, r3)) :
    Calls Try.prog 45 #[.string a0, .slice A1 l1.length c1] w fun e w' => ∃ v0_ : Value, e = .returned (.tuple #[v0_, .string r2, .int .i64 r3]) ∧ Kd.R (Kd.int .u64) 33 w' w.heap.size (fun _ => True) v0_ r1 ∧ Below w.heap.size w w' := by
  have HR1 := Aside0.mk hr1
  have HC1 := Aside0.mk hc1
  clear hr1 hc1
  have HB := Aside0.mk (Below.refl w.heap.size w)
  have H : ((field_sum.f k l1).bind fun t194 => (if t194 < 0 then (some (([] : List Int), (⟨#[]⟩ : ByteArray), 4)) else (if (Int.tmod t194 8) = 0 then (if (wrap64 (Int.tdiv t194 8)) > (a0.size : Int) then (some (([] : List Int), (⟨#[]⟩ : ByteArray), 1)) else (field_Split.l0 k a0 t194 ([] : List Int) 0 l1 (l1.length : Int) 0)) else (some (([] : List Int), (⟨#[]⟩ : ByteArray), 3))))) = some (r1, r2, r3) := h
  clear h
  replace H := Option.bind_eq_some_iff.mp H
  obtain ⟨t194, A30, H⟩ := H
  replace H : (if t194 < 0 then (some (([] : List Int), (⟨#[]⟩ : ByteArray), 4)) else (if (Int.tmod t194 8) = 0 then (if (wrap64 (Int.tdiv t194 8)) > (a0.size : Int) then (some (([] : List Int), (⟨#[]⟩ : ByteArray), 1)) else (field_Split.l0 k a0 t194 ([] : List Int) 0 l1 (l1.length : Int) 0)) else (some (([] : List Int), (⟨#[]⟩ : ByteArray), 3)))) = some (r1, r2, r3) := H
  have A3 := Aside0.mk A30
  clear A30
  by_cases c4 : t194 < 0
  · rw [if_pos c4] at H
    have c4b0 : decide (t194 < 0) = true := decide_eq_true c4
    clear c4
    simp only [Option.some.injEq, Prod.mk.injEq] at H
    obtain ⟨rfl, rfl, rfl⟩ := H
    go_enter Try.func45, Try.ntmps45
    go_wp2_with (first | (go_at_call 67; (with_reducible refine (field_sum.calls k _ _ l1 t194 _ ?side1 ?side2 A3.out).mono ?_); (case side1 => repeat (first | exact HR1.out | (with_reducible refine Kd.C_alloc ?_ _) | (with_reducible refine Kd.C_drewN ?_ _) | (with_reducible refine Kd.C_drew ?_))); (case side2 => exact HC1.out); rintro e w' ⟨rfl, ⟨nd, rfl⟩⟩; (try first | exact ⟨rfl, _, World.drewN_drewN _ _ _⟩ | exact ⟨rfl, _, Eq.trans (World.drewN_drewN _ _ _) (congrArg (World.drewN _) (Nat.add_assoc _ _ _))⟩)))
    repeat (go_quiet (first | (go_at_call 67; (with_reducible refine (field_sum.calls k _ _ l1 t194 _ ?side1 ?side2 A3.out).mono ?_); (case side1 => repeat (first | exact HR1.out | (with_reducible refine Kd.C_alloc ?_ _) | (with_reducible refine Kd.C_drewN ?_ _) | (with_reducible refine Kd.C_drew ?_))); (case side2 => exact HC1.out); rintro e w' ⟨rfl, ⟨nd, rfl⟩⟩; (try first | exact ⟨rfl, _, World.drewN_drewN _ _ _⟩ | exact ⟨rfl, _, Eq.trans (World.drewN_drewN _ _ _) (congrArg (World.drewN _) (Nat.add_assoc _ _ _))⟩))); try go_wp2_with (first | (go_at_call 67; (with_reducible refine (field_sum.calls k _ _ l1 t194 _ ?side1 ?side2 A3.out).mono ?_); (case side1 => repeat (first | exact HR1.out | (with_reducible refine Kd.C_alloc ?_ _) | (with_reducible refine Kd.C_drewN ?_ _) | (with_reducible refine Kd.C_drew ?_))); (case side2 => exact HC1.out); rintro e w' ⟨rfl, ⟨nd, rfl⟩⟩; (try first | exact ⟨rfl, _, World.drewN_drewN _ _ _⟩ | exact ⟨rfl, _, Eq.trans (World.drewN_drewN _ _ _) (congrArg (World.drewN _) (Nat.add_assoc _ _ _))⟩))))
    go_ret3
    exact ⟨_, by first | rfl | (simp [errW_none, errW_some] <;> rfl) | (simp [*, errW_none, errW_some] <;> rfl), by first | exact Kd.R_nil _ _ _ _ _ | exact Kd.N_nil _ _ _ _ _ | exact Kd.V_nil _ _ _ _ _ | exact Kd.Q_nil _ _ _ _ _ | exact Kd.S_nil _ _ _ _ _, by repeat (first | (with_reducible first | exact HB.out | apply below_alloc | apply pw_below_drewN | apply below_drew1) | exact HB.out)⟩
  · rw [if_neg c4] at H
    have c4b0 : decide (t194 < 0) = false := decide_eq_false c4
    clear c4
    by_cases c5 : (Int.tmod t194 8) = 0
    · rw [if_pos c5] at H
      have c5b0 : ((Int.tmod t194 8) == 0) = true := beq_iff_eq.mpr c5
      have c5b1 : ((Int.tmod t194 8) != 0) = false := bne_eq_false_iff_eq.mpr c5
      clear c5
      by_cases c6 : (wrap64 (Int.tdiv t194 8)) > (a0.size : Int)
      · rw [if_pos c6] at H
        have c6b0 : decide ((a0.size : Int) < (wrap64 (Int.tdiv t194 8))) = true := decide_eq_true c6
        clear c6
        simp only [Option.some.injEq, Prod.mk.injEq] at H
        obtain ⟨rfl, rfl, rfl⟩ := H
        go_enter Try.func45, Try.ntmps45
        go_wp2_with (first | (go_at_call 67; (with_reducible refine (field_sum.calls k _ _ l1 t194 _ ?side1 ?side2 A3.out).mono ?_); (case side1 => repeat (first | exact HR1.out | (with_reducible refine Kd.C_alloc ?_ _) | (with_reducible refine Kd.C_drewN ?_ _) | (with_reducible refine Kd.C_drew ?_))); (case side2 => exact HC1.out); rintro e w' ⟨rfl, ⟨nd, rfl⟩⟩; (try first | exact ⟨rfl, _, World.drewN_drewN _ _ _⟩ | exact ⟨rfl, _, Eq.trans (World.drewN_drewN _ _ _) (congrArg (World.drewN _) (Nat.add_assoc _ _ _))⟩)))
        repeat (go_quiet (first | (go_at_call 67; (with_reducible refine (field_sum.calls k _ _ l1 t194 _ ?side1 ?side2 A3.out).mono ?_); (case side1 => repeat (first | exact HR1.out | (with_reducible refine Kd.C_alloc ?_ _) | (with_reducible refine Kd.C_drewN ?_ _) | (with_reducible refine Kd.C_drew ?_))); (case side2 => exact HC1.out); rintro e w' ⟨rfl, ⟨nd, rfl⟩⟩; (try first | exact ⟨rfl, _, World.drewN_drewN _ _ _⟩ | exact ⟨rfl, _, Eq.trans (World.drewN_drewN _ _ _) (congrArg (World.drewN _) (Nat.add_assoc _ _ _))⟩))); try go_wp2_with (first | (go_at_call 67; (with_reducible refine (field_sum.calls k _ _ l1 t194 _ ?side1 ?side2 A3.out).mono ?_); (case side1 => repeat (first | exact HR1.out | (with_reducible refine Kd.C_alloc ?_ _) | (with_reducible refine Kd.C_drewN ?_ _) | (with_reducible refine Kd.C_drew ?_))); (case side2 => exact HC1.out); rintro e w' ⟨rfl, ⟨nd, rfl⟩⟩; (try first | exact ⟨rfl, _, World.drewN_drewN _ _ _⟩ | exact ⟨rfl, _, Eq.trans (World.drewN_drewN _ _ _) (congrArg (World.drewN _) (Nat.add_assoc _ _ _))⟩))))
        go_ret3
        exact ⟨_, by first | rfl | (simp [errW_none, errW_some] <;> rfl) | (simp [*, errW_none, errW_some] <;> rfl), by first | exact Kd.R_nil _ _ _ _ _ | exact Kd.N_nil _ _ _ _ _ | exact Kd.V_nil _ _ _ _ _ | exact Kd.Q_nil _ _ _ _ _ | exact Kd.S_nil _ _ _ _ _, by repeat (first | (with_reducible first | exact HB.out | apply below_alloc | apply pw_below_drewN | apply below_drew1) | exact HB.out)⟩
      · rw [if_neg c6] at H
        have c6b0 : decide ((a0.size : Int) < (wrap64 (Int.tdiv t194 8))) = false := decide_eq_false c6
        clear c6
        have H' := Aside0.mk H
        clear H
        go_enter Try.func45, Try.ntmps45
        go_wp2_with (first | (go_at_call 67; (with_reducible refine (field_sum.calls k _ _ l1 t194 _ ?side1 ?side2 A3.out).mono ?_); (case side1 => repeat (first | exact HR1.out | (with_reducible refine Kd.C_alloc ?_ _) | (with_reducible refine Kd.C_drewN ?_ _) | (with_reducible refine Kd.C_drew ?_))); (case side2 => exact HC1.out); rintro e w' ⟨rfl, ⟨nd, rfl⟩⟩; (try first | exact ⟨rfl, _, World.drewN_drewN _ _ _⟩ | exact ⟨rfl, _, Eq.trans (World.drewN_drewN _ _ _) (congrArg (World.drewN _) (Nat.add_assoc _ _ _))⟩)))
        repeat (go_quiet (first | (go_at_call 67; (with_reducible refine (field_sum.calls k _ _ l1 t194 _ ?side1 ?side2 A3.out).mono ?_); (case side1 => repeat (first | exact HR1.out | (with_reducible refine Kd.C_alloc ?_ _) | (with_reducible refine Kd.C_drewN ?_ _) | (with_reducible refine Kd.C_drew ?_))); (case side2 => exact HC1.out); rintro e w' ⟨rfl, ⟨nd, rfl⟩⟩; (try first | exact ⟨rfl, _, World.drewN_drewN _ _ _⟩ | exact ⟨rfl, _, Eq.trans (World.drewN_drewN _ _ _) (congrArg (World.drewN _) (Nat.add_assoc _ _ _))⟩))); try go_wp2_with (first | (go_at_call 67; (with_reducible refine (field_sum.calls k _ _ l1 t194 _ ?side1 ?side2 A3.out).mono ?_); (case side1 => repeat (first | exact HR1.out | (with_reducible refine Kd.C_alloc ?_ _) | (with_reducible refine Kd.C_drewN ?_ _) | (with_reducible refine Kd.C_drew ?_))); (case side2 => exact HC1.out); rintro e w' ⟨rfl, ⟨nd, rfl⟩⟩; (try first | exact ⟨rfl, _, World.drewN_drewN _ _ _⟩ | exact ⟨rfl, _, Eq.trans (World.drewN_drewN _ _ _) (congrArg (World.drewN _) (Nat.add_assoc _ _ _))⟩))))
        go_loopg [8, 9, 30] k (fun kq v8 v9 v30 w' => ∃ (x8_1 : List Int) (x9_1 : Int) (x30_1 : Int), v9 = .int .i64 x9_1 ∧ v30 = .int .i64 x30_1 ∧ Aside0 (field_Split.l0 kq a0 t194 x8_1 x9_1 l1 (l1.length : Int) x30_1 = some (r1, r2, r3)) ∧ Aside0 (kq ≤ k) ∧ Aside0 (Kd.R (Kd.int .u64) 33 w' w.heap.size (fun _ => True) v8 x8_1) ∧ Aside0 (Below w.heap.size w w'))
        case atStart => exact ⟨(([] : List Int)), (0), (0), (by first | rfl | (simp; done) | (simp [*]; done)), (by first | rfl | (simp; done) | (simp [*]; done)), H', ⟨Nat.le_refl _⟩, ⟨by first | exact Kd.R_nil _ _ _ _ _ | exact Kd.N_nil _ _ _ _ _ | exact Kd.V_nil _ _ _ _ _ | exact Kd.Q_nil _ _ _ _ _ | exact Kd.S_nil _ _ _ _ _⟩, ⟨by repeat (first | (with_reducible first | exact HB.out | apply below_alloc | apply pw_below_drewN | apply below_drew1) | exact HB.out)⟩⟩
        case round =>
          clear H'
          try clear c1
          try clear p2
          try clear c4
          try clear c4b0
          try clear c5
          try clear c5b0
          try clear c5b1
          try clear c6
          try clear c6b0
          try clear p6
          obtain ⟨x8_1, x9_1, x30_1, rfl, rfl, HA, HK1, HO_8, HB⟩ := hrel
          cases gk with
          | zero => exact absurd HA.out (by simp [field_Split.l0])
          | succ k1 =>
            have H := HA.out
            clear HA
            simp only [field_Split.l0] at H
            by_cases c7 : x30_1 < (l1.length : Int)
            · rw [if_pos c7] at H
              have c7b0 : decide (x30_1 < (l1.length : Int)) = true := decide_eq_true c7
              clear c7
              by_cases c8 : 0 ≤ x30_1
              · rw [if_pos c8] at H
                have c8b0 : decide (0 ≤ x30_1) = true := decide_eq_true c8
                clear c8
                by_cases c9 : x30_1 < (l1.length : Int)
                · rw [if_pos c9] at H
                  have c9b0 : decide (x30_1 < (l1.length : Int)) = true := decide_eq_true c9
                  clear c9
                  have H' := Aside0.mk H
                  clear H
                  have p195 : 0 ≤ (x30_1 : Int) := of_decide_eq_true (by first | (with_reducible assumption) | assumption)
                  have q195 : x30_1 < (l1.length : Int) := of_decide_eq_true (by first | (with_reducible assumption) | assumption)
                  obtain ⟨ad195, e195, hx195_0⟩ := Kd.at_int HR1.out x30_1 p195 q195
                  cases e195
                  replace hx195_0 := (HB.out.cell (World.block_lt_of_cell? w _ hx195_0)).trans hx195_0
                  replace p195 := eq_true p195
                  replace q195 := eq_true q195
                  go_wp2
                  repeat (go_quiet (fail); try go_wp2)
                  go_loopg [9, 12, 35] k1 (fun kq v9 v12 v35 w' => ∃ (x9_2 : Int) (x12_2 : Int) (x35_2 : Int), v9 = .int .i64 x9_2 ∧ v12 = .int .u64 x12_2 ∧ v35 = .int .i64 x35_2 ∧ Aside0 (field_Split.l1 kq a0 t194 x8_1 x9_2 x12_2 l1 (l1.length : Int) x30_1 (rd l1 x30_1) x35_2 = some (r1, r2, r3)) ∧ Aside0 (kq ≤ k1) ∧ Aside0 (Kd.R (Kd.int .u64) 33 w' w.heap.size (fun _ => True) u8 x8_1) ∧ Aside0 (Below w.heap.size w w'))
                  case atStart => exact ⟨(x9_1), (0), (0), (by first | rfl | (simp; done) | (simp [*]; done)), (by first | rfl | (simp; done) | (simp [*]; done)), (by first | rfl | (simp; done) | (simp [*]; done)), H', ⟨Nat.le_refl _⟩, ⟨by (with_reducible repeat (first | apply Kd.R_alloc | apply Kd.R_drewN | apply Kd.R_drew)); exact HO_8.out⟩, ⟨by repeat (first | (with_reducible first | exact HB.out | apply below_alloc | apply pw_below_drewN | apply below_drew1) | exact HB.out)⟩⟩
                  case round =>
                    clear H'
                    try clear c1
                    try clear p1
                    try clear q1
                    try clear hx1
                    try clear p2
                    try clear c4
                    try clear c4b0
                    try clear c5
                    try clear c5b0
                    try clear c5b1
                    try clear c6
                    try clear c6b0
                    try clear p6
                    try clear c7
                    try clear c7b0
                    try clear c8
                    try clear c8b0
                    try clear c9
                    try clear c9b0
                    try clear hx195_0
                    try clear p195
                    try clear p2
                    try clear p6
                    try clear q195
                    obtain ⟨x9_2, x12_2, x35_2, rfl, rfl, rfl, HA, HK2, HO_8, HB⟩ := hrel
                    cases gk with
                    | zero => exact absurd HA.out (by simp [field_Split.l1])
                    | succ k2 =>
                      have H := HA.out
                      clear HA
                      simp only [field_Split.l1] at H
                      by_cases c10 : x35_2 < (rd l1 x30_1)
                      · rw [if_pos c10] at H
                        have c10b0 : decide (x35_2 < (rd l1 x30_1)) = true := decide_eq_true c10
                        clear c10
                        obtain ⟨ji11, hji11⟩ : ∃ j_ : Int, (wrap64 (Int.tdiv x9_2 8)) = j_ := ⟨_, rfl⟩
                        replace H : (if 0 ≤ (ji11) then (if (ji11) < (a0.size : Int) then (if 0 ≤ (wrap64 (7 - (Int.tmod x9_2 8))) then (field_Split.l1 k2 a0 t194 x8_1 (wrap64 (x9_2 + 1)) (Go.bits .or .u64 (IntKind.u64.wrap (x12_2 * 2)) (IntKind.u64.wrap (Go.bits .and .u8 (shr .u8 (bt a0 (ji11)) (wrap64 (7 - (Int.tmod x9_2 8)))) 1))) l1 (l1.length : Int) x30_1 (rd l1 x30_1) (wrap64 (x35_2 + 1))) else (none)) else (none)) else (none)) = some (r1, r2, r3) := by first | (rw [hji11] at H; exact H) | (simp only [hji11] at H ⊢; exact H)
                        have hji11w : (IntKind.i64.wrap (Int.tdiv x9_2 8)) = ji11 := (i64_w _).trans hji11
                        by_cases c12 : 0 ≤ (ji11)
                        · rw [if_pos c12] at H
                          have c12b0 : decide (0 ≤ (ji11)) = true := decide_eq_true c12
                          clear c12
                          by_cases c13 : (ji11) < (a0.size : Int)
                          · rw [if_pos c13] at H
                            have c13b0 : decide ((ji11) < (a0.size : Int)) = true := decide_eq_true c13
                            clear c13
                            obtain ⟨ji15, hji15⟩ : ∃ j_ : Int, (wrap64 (7 - (Int.tmod x9_2 8))) = j_ := ⟨_, rfl⟩
                            replace H : (if 0 ≤ (ji15) then (field_Split.l1 k2 a0 t194 x8_1 (wrap64 (x9_2 + 1)) (Go.bits .or .u64 (IntKind.u64.wrap (x12_2 * 2)) (IntKind.u64.wrap (Go.bits .and .u8 (shr .u8 (bt a0 (ji11)) (ji15)) 1))) l1 (l1.length : Int) x30_1 (rd l1 x30_1) (wrap64 (x35_2 + 1))) else (none)) = some (r1, r2, r3) := by first | (rw [hji15] at H; exact H) | (simp only [hji15] at H ⊢; exact H)
                            have hji15w : (IntKind.i64.wrap (7 - (Int.tmod x9_2 8))) = ji15 := (i64_w _).trans hji15
                            by_cases c16 : 0 ≤ (ji15)
                            · rw [if_pos c16] at H
                              have c16b0 := eq_true c16
                              have c16b1 : decide (0 ≤ (ji15)) = true := decide_eq_true c16
                              clear c16
                              obtain ⟨ji17, hji17⟩ : ∃ j_ : Int, (shr .u8 (bt a0 (ji11)) (ji15)) = j_ := ⟨_, rfl⟩
                              replace H : (field_Split.l1 k2 a0 t194 x8_1 (wrap64 (x9_2 + 1)) (Go.bits .or .u64 (IntKind.u64.wrap (x12_2 * 2)) (IntKind.u64.wrap (Go.bits .and .u8 (ji17) 1))) l1 (l1.length : Int) x30_1 (rd l1 x30_1) (wrap64 (x35_2 + 1))) = some (r1, r2, r3) := by first | (rw [hji17] at H; exact H) | (simp only [hji17] at H ⊢; exact H)
                              have hji17_ : ((bt a0 (ji11)) / 2 ^ min (ji15).toNat 8) = ji17 := hji17
                              have hji17z : (ji15) ≤ 8 → ((bt a0 (ji11)) / 2 ^ (ji15).toNat) = ji17 := shr_small hji17
                              have H' := Aside0.mk H
                              clear H
                              have p14 : 0 ≤ ((ji11) : Int) := of_decide_eq_true (by first | (with_reducible assumption) | assumption)
                              have q14 : (ji11) < (a0.size : Int) := of_decide_eq_true (by first | (with_reducible assumption) | assumption)
                              have hx14 := bt_at a0 (ji11)
                              replace p14 := eq_true p14
                              replace q14 := eq_true q14
                              go_wp2
                              repeat (go_quiet (fail); try go_wp2)
                              go_roundg k2
                              case measure => have := HK1.out; have := HK2.out; omega
                              case rel => exact ⟨(wrap64 (x9_2 + 1)), (Go.bits .or .u64 (IntKind.u64.wrap (x12_2 * 2)) (IntKind.u64.wrap (Go.bits .and .u8 (ji17) 1))), (wrap64 (x35_2 + 1)), (by first | rfl | (simp; done) | (simp [*]; done)), (by first | rfl | (simp; done) | (simp only [← hji17] <;> (first | rfl | simp)) | (simp [*]; done)), (by first | rfl | (simp; done) | (simp [*]; done)), H', ⟨by have := HK1.out; have := HK2.out; omega⟩, ⟨by (with_reducible repeat (first | apply Kd.R_alloc | apply Kd.R_drewN | apply Kd.R_drew)); exact HO_8.out⟩, ⟨by repeat (first | (with_reducible first | exact HB.out | apply below_alloc | apply pw_below_drewN | apply below_drew1) | exact HB.out)⟩⟩
                            · rw [if_neg c16] at H
                              exact absurd H (by simp)
                          · rw [if_neg c13] at H
                            exact absurd H (by simp)
                        · rw [if_neg c12] at H
                          exact absurd H (by simp)
                      · rw [if_neg c10] at H
                        have c10b0 : decide (x35_2 < (rd l1 x30_1)) = false := decide_eq_false c10
                        clear c10
                        by_cases c18 : x8_1.length < 17592186044416
                        · rw [if_pos c18] at H
                          have LMc18 := Aside0.mk c18
                          clear c18
                          obtain ⟨y196, hy196⟩ : ∃ y_ : List Int, y_ = (x8_1 ++ [x12_2]) := ⟨_, rfl⟩
                          replace H : (field_Split.l0 k2 a0 t194 y196 x9_2 l1 (l1.length : Int) (wrap64 (x30_1 + 1))) = some (r1, r2, r3) := by first | (rw [hy196]; with_reducible exact H) | (have H2_ := (Option.bind_some _ _).symm.trans H; rw [hy196]; with_reducible exact H2_) | (have H2_ := (Option.bind_some _ _).symm.trans H; with_reducible exact H2_) | with_reducible exact H | (rw [hy196]; exact H) | exact H
                          have Ny196 := Aside0.mk hy196
                          clear hy196
                          have H' := Aside0.mk H
                          clear H
                          go_wp2_with (first | ((with_reducible refine gate_builtin (b := .append) (xs := #[.tmp 53, .tmp 55]) rfl ?_); at_builtin; refine Kd.R_append (Kd.int .u64) (w0 := w) w.heap.size rfl (.tmp 53) (.tmp 55) 88 33 (.int .u64 0) 8 rfl Try.underlying88 info33 rfl (by decide) (by omega) u8 x8_1 x12_2 [.int .u64 x12_2] (fun _ => True) (fun _ => False) rfl rfl ?aP (fun _ hk => hk.elim) ?aF ?aO ?aB ?aS ?aL ?_; (case aP => exact rfl); (case aB => exact (by repeat (first | (with_reducible first | exact HB.out | apply below_alloc | apply pw_below_drewN | apply below_drew1) | exact HB.out))); (case aF => exact (fun _ _ => trivial)); (case aO => exact (by (with_reducible repeat (first | apply Kd.R_alloc | apply Kd.R_drewN | apply Kd.R_drew)); exact HO_8.out)); (case aS => exact (below_size (by repeat (first | (with_reducible first | exact HB.out | apply below_alloc | apply pw_below_drewN | apply below_drew1) | exact HB.out)))); (case aL => have := LMc18.out; omega); intro v197 w19 ho hb hg hat; rw [← Ny196.out] at ho; have n0_ := Aside0.mk (hb); have n1_ := Aside0.mk (ho); clear HB; clear HO_8; have HB := n0_; have HO198 := n1_; clear n0_ n1_; clear ho hb hg hat))
                          repeat (go_quiet (first | ((with_reducible refine gate_builtin (b := .append) (xs := #[.tmp 53, .tmp 55]) rfl ?_); at_builtin; refine Kd.R_append (Kd.int .u64) (w0 := w) w.heap.size rfl (.tmp 53) (.tmp 55) 88 33 (.int .u64 0) 8 rfl Try.underlying88 info33 rfl (by decide) (by omega) u8 x8_1 x12_2 [.int .u64 x12_2] (fun _ => True) (fun _ => False) rfl rfl ?aP (fun _ hk => hk.elim) ?aF ?aO ?aB ?aS ?aL ?_; (case aP => exact rfl); (case aB => exact (by repeat (first | (with_reducible first | exact HB.out | apply below_alloc | apply pw_below_drewN | apply below_drew1) | exact HB.out))); (case aF => exact (fun _ _ => trivial)); (case aO => exact (by (with_reducible repeat (first | apply Kd.R_alloc | apply Kd.R_drewN | apply Kd.R_drew)); exact HO_8.out)); (case aS => exact (below_size (by repeat (first | (with_reducible first | exact HB.out | apply below_alloc | apply pw_below_drewN | apply below_drew1) | exact HB.out)))); (case aL => have := LMc18.out; omega); intro v197 w19 ho hb hg hat; rw [← Ny196.out] at ho; have n0_ := Aside0.mk (hb); have n1_ := Aside0.mk (ho); clear HB; clear HO_8; have HB := n0_; have HO198 := n1_; clear n0_ n1_; clear ho hb hg hat)); try go_wp2_with (first | ((with_reducible refine gate_builtin (b := .append) (xs := #[.tmp 53, .tmp 55]) rfl ?_); at_builtin; refine Kd.R_append (Kd.int .u64) (w0 := w) w.heap.size rfl (.tmp 53) (.tmp 55) 88 33 (.int .u64 0) 8 rfl Try.underlying88 info33 rfl (by decide) (by omega) u8 x8_1 x12_2 [.int .u64 x12_2] (fun _ => True) (fun _ => False) rfl rfl ?aP (fun _ hk => hk.elim) ?aF ?aO ?aB ?aS ?aL ?_; (case aP => exact rfl); (case aB => exact (by repeat (first | (with_reducible first | exact HB.out | apply below_alloc | apply pw_below_drewN | apply below_drew1) | exact HB.out))); (case aF => exact (fun _ _ => trivial)); (case aO => exact (by (with_reducible repeat (first | apply Kd.R_alloc | apply Kd.R_drewN | apply Kd.R_drew)); exact HO_8.out)); (case aS => exact (below_size (by repeat (first | (with_reducible first | exact HB.out | apply below_alloc | apply pw_below_drewN | apply below_drew1) | exact HB.out)))); (case aL => have := LMc18.out; omega); intro v197 w19 ho hb hg hat; rw [← Ny196.out] at ho; have n0_ := Aside0.mk (hb); have n1_ := Aside0.mk (ho); clear HB; clear HO_8; have HB := n0_; have HO198 := n1_; clear n0_ n1_; clear ho hb hg hat)))
                          go_roundg k2
                          case measure => have := HK1.out; have := HK2.out; omega
                          case rel => exact ⟨(y196), (x9_2), (wrap64 (x30_1 + 1)), (by first | rfl | (simp; done) | (simp [*]; done)), (by first | rfl | (simp; done) | (simp [*]; done)), H', ⟨by have := HK1.out; have := HK2.out; omega⟩, ⟨by (with_reducible repeat (first | apply Kd.R_alloc | apply Kd.R_drewN | apply Kd.R_drew)); exact HO198.out⟩, ⟨by repeat (first | (with_reducible first | exact HB.out | apply below_alloc | apply pw_below_drewN | apply below_drew1) | exact HB.out)⟩⟩
                        · rw [if_neg c18] at H
                          exact absurd H (by simp)
                · rw [if_neg c9] at H
                  exact absurd H (by simp)
              · rw [if_neg c8] at H
                exact absurd H (by simp)
            · rw [if_neg c7] at H
              have c7b0 : decide (x30_1 < (l1.length : Int)) = false := decide_eq_false c7
              clear c7
              obtain ⟨ji20, hji20⟩ : ∃ j_ : Int, (wrap64 (Int.tdiv t194 8)) = j_ := ⟨_, rfl⟩
              replace H : (if 0 ≤ (ji20) then (if (ji20) ≤ (a0.size : Int) then (some (x8_1, a0.extract ((ji20) : Int).toNat a0.size, 0)) else (none)) else (none)) = some (r1, r2, r3) := by first | (rw [hji20] at H; exact H) | (simp only [hji20] at H ⊢; exact H)
              (try rw [hji20] at c6b0)
              have hji20w : (IntKind.i64.wrap (Int.tdiv t194 8)) = ji20 := (i64_w _).trans hji20
              by_cases c21 : 0 ≤ (ji20)
              · rw [if_pos c21] at H
                have c21b0 := eq_true c21
                have c21b1 : decide (0 ≤ (ji20)) = true := decide_eq_true c21
                clear c21
                by_cases c22 : (ji20) ≤ (a0.size : Int)
                · rw [if_pos c22] at H
                  have c22b0 := eq_true c22
                  have c22b1 : decide ((ji20) ≤ (a0.size : Int)) = true := decide_eq_true c22
                  clear c22
                  simp only [Option.some.injEq, Prod.mk.injEq] at H
                  obtain ⟨rfl, rfl, rfl⟩ := H
                  go_wp2
                  repeat (go_quiet (fail); try go_wp2)
                  go_ret3
                  exact ⟨_, by first | rfl | (simp [errW_none, errW_some] <;> rfl) | (simp only [← hji20]; first | rfl | (simp [errW_none, errW_some] <;> rfl)) | (simp [*, errW_none, errW_some] <;> rfl), by (with_reducible repeat (first | apply Kd.R_alloc | apply Kd.R_drewN | apply Kd.R_drew)); exact HO_8.out, by repeat (first | (with_reducible first | exact HB.out | apply below_alloc | apply pw_below_drewN | apply below_drew1) | exact HB.out)⟩
                · rw [if_neg c22] at H
                  exact absurd H (by simp)
              · rw [if_neg c21] at H
                exact absurd H (by simp)
    · rw [if_neg c5] at H
      have c5b0 : ((Int.tmod t194 8) == 0) = false := beq_eq_false_iff_ne.mpr c5
      have c5b1 : ((Int.tmod t194 8) != 0) = true := bne_iff_ne.mpr c5
      simp only [Option.some.injEq, Prod.mk.injEq] at H
      obtain ⟨rfl, rfl, rfl⟩ := H
      go_enter Try.func45, Try.ntmps45
      go_wp2_with (first | (go_at_call 67; (with_reducible refine (field_sum.calls k _ _ l1 t194 _ ?side1 ?side2 A3.out).mono ?_); (case side1 => repeat (first | exact HR1.out | (with_reducible refine Kd.C_alloc ?_ _) | (with_reducible refine Kd.C_drewN ?_ _) | (with_reducible refine Kd.C_drew ?_))); (case side2 => exact HC1.out); rintro e w' ⟨rfl, ⟨nd, rfl⟩⟩; (try first | exact ⟨rfl, _, World.drewN_drewN _ _ _⟩ | exact ⟨rfl, _, Eq.trans (World.drewN_drewN _ _ _) (congrArg (World.drewN _) (Nat.add_assoc _ _ _))⟩)))
      repeat (go_quiet (first | (go_at_call 67; (with_reducible refine (field_sum.calls k _ _ l1 t194 _ ?side1 ?side2 A3.out).mono ?_); (case side1 => repeat (first | exact HR1.out | (with_reducible refine Kd.C_alloc ?_ _) | (with_reducible refine Kd.C_drewN ?_ _) | (with_reducible refine Kd.C_drew ?_))); (case side2 => exact HC1.out); rintro e w' ⟨rfl, ⟨nd, rfl⟩⟩; (try first | exact ⟨rfl, _, World.drewN_drewN _ _ _⟩ | exact ⟨rfl, _, Eq.trans (World.drewN_drewN _ _ _) (congrArg (World.drewN _) (Nat.add_assoc _ _ _))⟩))); try go_wp2_with (first | (go_at_call 67; (with_reducible refine (field_sum.calls k _ _ l1 t194 _ ?side1 ?side2 A3.out).mono ?_); (case side1 => repeat (first | exact HR1.out | (with_reducible refine Kd.C_alloc ?_ _) | (with_reducible refine Kd.C_drewN ?_ _) | (with_reducible refine Kd.C_drew ?_))); (case side2 => exact HC1.out); rintro e w' ⟨rfl, ⟨nd, rfl⟩⟩; (try first | exact ⟨rfl, _, World.drewN_drewN _ _ _⟩ | exact ⟨rfl, _, Eq.trans (World.drewN_drewN _ _ _) (congrArg (World.drewN _) (Nat.add_assoc _ _ _))⟩))))
      go_ret3
      exact ⟨_, by first | rfl | (simp [errW_none, errW_some] <;> rfl) | (simp [*, errW_none, errW_some] <;> rfl), by first | exact Kd.R_nil _ _ _ _ _ | exact Kd.N_nil _ _ _ _ _ | exact Kd.V_nil _ _ _ _ _ | exact Kd.Q_nil _ _ _ _ _ | exact Kd.S_nil _ _ _ _ _, by repeat (first | (with_reducible first | exact HB.out | apply below_alloc | apply pw_below_drewN | apply below_drew1) | exact HB.out)⟩

/-! ### oam_Open: function 43 (given: its walk is in another text) -/

theorem oam_Open.bodyPost_W {P : Program} {f : Func} {Q : Ending → World → Prop} {ex : Exit} {a : Act} {W : World} (h : ∀ W', W' = W → bodyPost P f Q ex a W') : bodyPost P f Q ex a W := h W rfl
def oam_Open.f (k : Nat) (a0 : ByteArray) : Option (Int × Int × Int × Int × Int × ByteArray × Int) := (field_Split.f k a0 (([3, 5, 8, 8, 8] : List Int))).bind fun b =>
  if b.2.2 = 0 then (if b.1.length = 5 then (if (b.2.1.size : Int) < (rd b.1 4) % 256 + 1 then (some (0, 0, 0, 0, 0, (⟨#[]⟩ : ByteArray), 1)) else
    (if (bt b.2.1 ((rd b.1 4) % 256)) = 0 then (some ((rd b.1 0) % 256, (rd b.1 1) % 256, (rd b.1 2) % 256, (rd b.1 3) % 256, (rd b.1 4) % 256, b.2.1.extract 0 (((rd b.1 4) % 256) : Int).toNat, 0)) else (some (0, 0, 0, 0, 0, (⟨#[]⟩ : ByteArray), 3)))) else none) else (some (0, 0, 0, 0, 0, (⟨#[]⟩ : ByteArray), b.2.2))
theorem oam_Open.mono : ∀ a0 k, LeO (oam_Open.f k a0) (oam_Open.f (k + 1) a0) := by
  intro a0 k
  unfold oam_Open.f
  repeat' first
      | (with_reducible exact field_Split.mono _ _ _)
      | (with_reducible exact LeO.refl _)
      | (with_reducible exact LeO.none _)
      | (with_reducible refine LeO.ite ?_ ?_)
      | (with_reducible refine LeO.bind ?_ (fun _ => ?_))
theorem oam_Open.lit5 (w : World) (o : Obj) : Kd.C (Kd.int .i64) ((w.alloc o).alloc (.cells #[.int .i64 3, .int .i64 5, .int .i64 8, .int .i64 8, .int .i64 8] 3)) (some ⟨w.heap.size + 1, 0, none⟩) 5 [3, 5, 8, 8, 8] := by
  have hb : ((w.alloc o).alloc (.cells #[.int .i64 3, .int .i64 5, .int .i64 8, .int .i64 8, .int .i64 8] 3)).heap[w.heap.size + 1]? = some (.cells #[.int .i64 3, .int .i64 5, .int .i64 8, .int .i64 8, .int .i64 8] 3 (0, 0)) := by
    have := heap_alloc_new (w.alloc o) (.cells #[.int .i64 3, .int .i64 5, .int .i64 8, .int .i64 8, .int .i64 8] 3)
    rwa [World.size_alloc] at this
  refine ⟨rfl, by decide, fun _ => ⟨_, rfl, fun j p hj => ⟨[.int .i64 p], rfl, rfl, fun i u hu => ?_⟩⟩⟩
  have hj5 : j < 5 := (List.getElem?_eq_some_iff.1 hj).1
  have hi : i = 0 := by
    have := (List.getElem?_eq_some_iff.1 hu).1
    simpa using this
  subst hi
  have e : (⟨w.heap.size + 1, 0, none⟩ : Addr).add (j * (Kd.int .i64).sz + 0) = ⟨w.heap.size + 1, j, none⟩ := by
    show (⟨w.heap.size + 1, 0, none⟩ : Addr).add (j * 1 + 0) = _
    simp [Addr.add]
    omega
  rw [e, blk_cell hb j]
  simp only [List.getElem?_cons_zero, Option.some.injEq] at hu
  subst hu
  have hc : j = 0 ∨ j = 1 ∨ j = 2 ∨ j = 3 ∨ j = 4 := by omega
  rcases hc with rfl | rfl | rfl | rfl | rfl <;> simp_all
set_option maxHeartbeats 8000000 in
set_option maxRecDepth 100000 in
theorem oam_Open.cA (k : Nat) (a0 : ByteArray) (r1 : Int) (r2 : Int) (r3 : Int) (r4 : Int) (r5 : Int) (r6 : ByteArray) (r7 : Int) (w : World) (h : oam_Open.f k a0 = some (r1, r2, r3, r4, r5, r6, r7)) (l : List Int) (rest : ByteArray) (hsp : field_Split.f k a0 [3, 5, 8, 8, 8] = some (l, rest, 0)) (c1 : (rest.size : Int) < rd l 4 % 256 + 1) :
    Calls Try.prog 43 #[.string a0] w fun e w' => e = .returned (.tuple #[.agg #[.int .u8 r1, .int .u8 r2, .int .u8 r3, .int .u8 r4, .int .u8 r5], .string r6, .int .i64 r7]) ∧ Below w.heap.size w w' := by
  unfold oam_Open.f at h
  rw [hsp] at h
  dsimp only [Option.bind_some] at h
  have huH := Try.underlying84
  have H := Lib.hid h
  have HS := Lib.hid hsp
  clear h hsp
  have h5 : (5 : Int) ≤ l.length := by
    have hh := H.out
    rw [if_pos rfl] at hh
    by_cases h5 : l.length = 5
    · omega
    · rw [if_neg h5] at hh; cases hh
  have hn0 : 0 ≤ rd l 4 % 256 := by omega
  have hn1 : rd l 4 % 256 ≤ 255 := by omega
  have c1b : decide ((rest.size : Int) < rd l 4 % 256 + 1) = true := decide_eq_true c1
  go_enter Try.func43, Try.ntmps43
  go_wp2_with (go_at_call 45; refine (field_Split.calls k a0 (some ⟨w.heap.size + 1, 0, none⟩) 5 [3, 5, 8, 8, 8] l rest 0 _ (oam_Open.lit5 w _) (by decide) HS.out).mono ?_; rintro e' w1 ⟨v0, rfl, hR, hb⟩; have hB := blk_below (blk_alloc (blk_new w (.cells #[.int .u8 0, .int .u8 0, .int .u8 0, .int .u8 0, .int .u8 0] 84)) _) hb; have HBW := ((((Below.refl w.heap.size w).alloc (Nat.le_refl _) _).alloc (by simp) _).trans (hb.mono (by simp; omega))); have hz0 := (blk_cell hB 0).trans rfl; have hz1 := (blk_cell hB 1).trans rfl; have hz2 := (blk_cell hB 2).trans rfl; have hz3 := (blk_cell hB 3).trans rfl; have hz4 := (blk_cell hB 4).trans rfl; have hf0 := blk_frozen hB 0; have hf1 := blk_frozen hB 1; have hf2 := blk_frozen hB 2; have hf3 := blk_frozen hB 3; have hf4 := blk_frozen hB 4; obtain ⟨Al, cl, rfl⟩ := Kd.R_slice hR; obtain ⟨ad, eA, hx0⟩ := Kd.at_int (Kd.R_reads' hR).2.2 0 (by omega) (by omega); cases eA; obtain ⟨ad1, eA, hx1⟩ := Kd.at_int (Kd.R_reads' hR).2.2 1 (by omega) (by omega); cases eA; obtain ⟨ad1, eA, hx2⟩ := Kd.at_int (Kd.R_reads' hR).2.2 2 (by omega) (by omega); cases eA; obtain ⟨ad1, eA, hx3⟩ := Kd.at_int (Kd.R_reads' hR).2.2 3 (by omega) (by omega); cases eA; obtain ⟨ad1, eA, hx4⟩ := Kd.at_int (Kd.R_reads' hR).2.2 4 (by omega) (by omega); cases eA)
  obtain ⟨bl, ol, pl⟩ := ad
  simp only [show ((0 : Int)).toNat = 0 from rfl, show ((1 : Int)).toNat = 1 from rfl, show ((2 : Int)).toNat = 2 from rfl, show ((3 : Int)).toNat = 3 from rfl, show ((4 : Int)).toNat = 4 from rfl] at hx0 hx1 hx2 hx3 hx4
  rw [Addr.add_zero'] at hx0
  simp only [Go.Addr.add, Nat.reduceEqDiff, ↓reduceIte] at hx1 hx2 hx3 hx4
  have hy0 := (World.cell?_alloc_lt w1 (.cells #[.int .u8 0, .int .u8 0, .int .u8 0, .int .u8 0, .int .u8 0] 84) _ (World.block_lt_of_cell? w1 _ hx0)).trans hx0
  have hy1 := (World.cell?_alloc_lt w1 (.cells #[.int .u8 0, .int .u8 0, .int .u8 0, .int .u8 0, .int .u8 0] 84) _ (World.block_lt_of_cell? w1 _ hx1)).trans hx1
  have hy2 := (World.cell?_alloc_lt w1 (.cells #[.int .u8 0, .int .u8 0, .int .u8 0, .int .u8 0, .int .u8 0] 84) _ (World.block_lt_of_cell? w1 _ hx2)).trans hx2
  have hy3 := (World.cell?_alloc_lt w1 (.cells #[.int .u8 0, .int .u8 0, .int .u8 0, .int .u8 0, .int .u8 0] 84) _ (World.block_lt_of_cell? w1 _ hx3)).trans hx3
  have hy4 := (World.cell?_alloc_lt w1 (.cells #[.int .u8 0, .int .u8 0, .int .u8 0, .int .u8 0, .int .u8 0] 84) _ (World.block_lt_of_cell? w1 _ hx4)).trans hx4
  have q0 : (0 : Int) < (l.length : Int) := by omega
  have q1 : (1 : Int) < (l.length : Int) := by omega
  have q2 : (2 : Int) < (l.length : Int) := by omega
  have q3 : (3 : Int) < (l.length : Int) := by omega
  have q4 : (4 : Int) < (l.length : Int) := by omega
  have hltB := blk_lt hB
  go_region
  all_goals (try go_wp2)
  have hR2 := H.out
  rw [if_pos trivial] at hR2
  have h55 : l.length = 5 := by
    by_cases h55 : l.length = 5
    · exact h55
    · rw [if_neg h55] at hR2; cases hR2
  rw [if_pos h55, if_pos c1] at hR2
  simp only [Option.some.injEq, Prod.mk.injEq] at hR2
  obtain ⟨rfl, rfl, rfl, rfl, rfl, rfl, rfl⟩ := hR2
  refine oam_Open.bodyPost_W (fun W' hW' => ?_)
  have hBel : Below w.heap.size w W' := by
    rw [hW']
    repeat (first | (with_reducible exact HBW) | (with_reducible refine Below.drew ?_) | (with_reducible refine Below.alloc ?_ (by have := HBW.size; simp; omega) _) | (with_reducible refine Below.setCell ?_ (by simp) _))
  have hF : W'.heap[w.heap.size]? = some (.cells #[.int .u8 0, .int .u8 0, .int .u8 0, .int .u8 0, .int .u8 0] 84 (0, 0)) := by
    rw [hW']
    (with_reducible repeat (first | refine blk_drew ?_ | refine blk_alloc ?_ _)); refine blk_put (cs := #[.int .u8 0, .int .u8 0, .int .u8 0, .int .u8 0, .int .u8 0]) ?_ 4 _ rfl; (with_reducible repeat (first | refine blk_drew ?_ | refine blk_alloc ?_ _)); refine blk_put (cs := #[.int .u8 0, .int .u8 0, .int .u8 0, .int .u8 0, .int .u8 0]) ?_ 3 _ rfl; (with_reducible repeat (first | refine blk_drew ?_ | refine blk_alloc ?_ _)); refine blk_put (cs := #[.int .u8 0, .int .u8 0, .int .u8 0, .int .u8 0, .int .u8 0]) ?_ 2 _ rfl; (with_reducible repeat (first | refine blk_drew ?_ | refine blk_alloc ?_ _)); refine blk_put (cs := #[.int .u8 0, .int .u8 0, .int .u8 0, .int .u8 0, .int .u8 0]) ?_ 1 _ rfl; (with_reducible repeat (first | refine blk_drew ?_ | refine blk_alloc ?_ _)); refine blk_put (cs := #[.int .u8 0, .int .u8 0, .int .u8 0, .int .u8 0, .int .u8 0]) ?_ 0 _ rfl; (with_reducible repeat (first | refine blk_drew ?_ | refine blk_alloc ?_ _)); exact hB
  clear hW'
  have z0 : W'.cell? ⟨w.heap.size, 0, none⟩ = some (.int .u8 0) := (blk_cell hF 0).trans rfl
  have z1 : W'.cell? ⟨w.heap.size, 1, none⟩ = some (.int .u8 0) := (blk_cell hF 1).trans rfl
  have z2 : W'.cell? ⟨w.heap.size, 2, none⟩ = some (.int .u8 0) := (blk_cell hF 2).trans rfl
  have z3 : W'.cell? ⟨w.heap.size, 3, none⟩ = some (.int .u8 0) := (blk_cell hF 3).trans rfl
  have z4 : W'.cell? ⟨w.heap.size, 4, none⟩ = some (.int .u8 0) := (blk_cell hF 4).trans rfl
  exact bodyPost_ret (v := .tuple #[.agg #[.int .u8 0, .int .u8 0, .int .u8 0, .int .u8 0, .int .u8 0], .string ⟨#[]⟩, .int .i64 1]) (by simp [results, Try.results43, go_sem, z0, z1, z2, z3, z4]) rfl ⟨rfl, hBel⟩
set_option maxHeartbeats 8000000 in
set_option maxRecDepth 100000 in
theorem oam_Open.cB (k : Nat) (a0 : ByteArray) (r1 : Int) (r2 : Int) (r3 : Int) (r4 : Int) (r5 : Int) (r6 : ByteArray) (r7 : Int) (w : World) (h : oam_Open.f k a0 = some (r1, r2, r3, r4, r5, r6, r7)) (l : List Int) (rest : ByteArray) (hsp : field_Split.f k a0 [3, 5, 8, 8, 8] = some (l, rest, 0)) (c1 : ¬ (rest.size : Int) < rd l 4 % 256 + 1) (c2 : ¬ bt rest (rd l 4 % 256) = 0) :
    Calls Try.prog 43 #[.string a0] w fun e w' => e = .returned (.tuple #[.agg #[.int .u8 r1, .int .u8 r2, .int .u8 r3, .int .u8 r4, .int .u8 r5], .string r6, .int .i64 r7]) ∧ Below w.heap.size w w' := by
  unfold oam_Open.f at h
  rw [hsp] at h
  dsimp only [Option.bind_some] at h
  have huH := Try.underlying84
  have H := Lib.hid h
  have HS := Lib.hid hsp
  clear h hsp
  have h5 : (5 : Int) ≤ l.length := by
    have hh := H.out
    rw [if_pos rfl] at hh
    by_cases h5 : l.length = 5
    · omega
    · rw [if_neg h5] at hh; cases hh
  have hn0 : 0 ≤ rd l 4 % 256 := by omega
  have hn1 : rd l 4 % 256 ≤ 255 := by omega
  have c1b : decide ((rest.size : Int) < rd l 4 % 256 + 1) = false := decide_eq_false c1
  have hbt := bt_at rest (rd l 4 % 256)
  have hq : rd l 4 % 256 < (rest.size : Int) := by omega
  have c2b : (bt rest (rd l 4 % 256) == 0) = false := by rw [beq_eq_false_iff_ne]; exact c2
  have c2c : (bt rest (rd l 4 % 256) != 0) = true := by rw [bne_iff_ne]; exact c2
  go_enter Try.func43, Try.ntmps43
  go_wp2_with (go_at_call 45; refine (field_Split.calls k a0 (some ⟨w.heap.size + 1, 0, none⟩) 5 [3, 5, 8, 8, 8] l rest 0 _ (oam_Open.lit5 w _) (by decide) HS.out).mono ?_; rintro e' w1 ⟨v0, rfl, hR, hb⟩; have hB := blk_below (blk_alloc (blk_new w (.cells #[.int .u8 0, .int .u8 0, .int .u8 0, .int .u8 0, .int .u8 0] 84)) _) hb; have HBW := ((((Below.refl w.heap.size w).alloc (Nat.le_refl _) _).alloc (by simp) _).trans (hb.mono (by simp; omega))); have hz0 := (blk_cell hB 0).trans rfl; have hz1 := (blk_cell hB 1).trans rfl; have hz2 := (blk_cell hB 2).trans rfl; have hz3 := (blk_cell hB 3).trans rfl; have hz4 := (blk_cell hB 4).trans rfl; have hf0 := blk_frozen hB 0; have hf1 := blk_frozen hB 1; have hf2 := blk_frozen hB 2; have hf3 := blk_frozen hB 3; have hf4 := blk_frozen hB 4; obtain ⟨Al, cl, rfl⟩ := Kd.R_slice hR; obtain ⟨ad, eA, hx0⟩ := Kd.at_int (Kd.R_reads' hR).2.2 0 (by omega) (by omega); cases eA; obtain ⟨ad1, eA, hx1⟩ := Kd.at_int (Kd.R_reads' hR).2.2 1 (by omega) (by omega); cases eA; obtain ⟨ad1, eA, hx2⟩ := Kd.at_int (Kd.R_reads' hR).2.2 2 (by omega) (by omega); cases eA; obtain ⟨ad1, eA, hx3⟩ := Kd.at_int (Kd.R_reads' hR).2.2 3 (by omega) (by omega); cases eA; obtain ⟨ad1, eA, hx4⟩ := Kd.at_int (Kd.R_reads' hR).2.2 4 (by omega) (by omega); cases eA)
  obtain ⟨bl, ol, pl⟩ := ad
  simp only [show ((0 : Int)).toNat = 0 from rfl, show ((1 : Int)).toNat = 1 from rfl, show ((2 : Int)).toNat = 2 from rfl, show ((3 : Int)).toNat = 3 from rfl, show ((4 : Int)).toNat = 4 from rfl] at hx0 hx1 hx2 hx3 hx4
  rw [Addr.add_zero'] at hx0
  simp only [Go.Addr.add, Nat.reduceEqDiff, ↓reduceIte] at hx1 hx2 hx3 hx4
  have hy0 := (World.cell?_alloc_lt w1 (.cells #[.int .u8 0, .int .u8 0, .int .u8 0, .int .u8 0, .int .u8 0] 84) _ (World.block_lt_of_cell? w1 _ hx0)).trans hx0
  have hy1 := (World.cell?_alloc_lt w1 (.cells #[.int .u8 0, .int .u8 0, .int .u8 0, .int .u8 0, .int .u8 0] 84) _ (World.block_lt_of_cell? w1 _ hx1)).trans hx1
  have hy2 := (World.cell?_alloc_lt w1 (.cells #[.int .u8 0, .int .u8 0, .int .u8 0, .int .u8 0, .int .u8 0] 84) _ (World.block_lt_of_cell? w1 _ hx2)).trans hx2
  have hy3 := (World.cell?_alloc_lt w1 (.cells #[.int .u8 0, .int .u8 0, .int .u8 0, .int .u8 0, .int .u8 0] 84) _ (World.block_lt_of_cell? w1 _ hx3)).trans hx3
  have hy4 := (World.cell?_alloc_lt w1 (.cells #[.int .u8 0, .int .u8 0, .int .u8 0, .int .u8 0, .int .u8 0] 84) _ (World.block_lt_of_cell? w1 _ hx4)).trans hx4
  have q0 : (0 : Int) < (l.length : Int) := by omega
  have q1 : (1 : Int) < (l.length : Int) := by omega
  have q2 : (2 : Int) < (l.length : Int) := by omega
  have q3 : (3 : Int) < (l.length : Int) := by omega
  have q4 : (4 : Int) < (l.length : Int) := by omega
  have hltB := blk_lt hB
  go_region
  all_goals (try go_wp2)
  have hR2 := H.out
  rw [if_pos trivial] at hR2
  have h55 : l.length = 5 := by
    by_cases h55 : l.length = 5
    · exact h55
    · rw [if_neg h55] at hR2; cases hR2
  rw [if_pos h55, if_neg (by omega)] at hR2
  rw [if_neg c2] at hR2
  simp only [Option.some.injEq, Prod.mk.injEq] at hR2
  obtain ⟨rfl, rfl, rfl, rfl, rfl, rfl, rfl⟩ := hR2
  refine oam_Open.bodyPost_W (fun W' hW' => ?_)
  have hBel : Below w.heap.size w W' := by
    rw [hW']
    repeat (first | (with_reducible exact HBW) | (with_reducible refine Below.drew ?_) | (with_reducible refine Below.alloc ?_ (by have := HBW.size; simp; omega) _) | (with_reducible refine Below.setCell ?_ (by simp) _))
  have hF : W'.heap[w.heap.size]? = some (.cells #[.int .u8 0, .int .u8 0, .int .u8 0, .int .u8 0, .int .u8 0] 84 (0, 0)) := by
    rw [hW']
    (with_reducible repeat (first | refine blk_drew ?_ | refine blk_alloc ?_ _)); refine blk_put (cs := #[.int .u8 0, .int .u8 0, .int .u8 0, .int .u8 0, .int .u8 0]) ?_ 4 _ rfl; (with_reducible repeat (first | refine blk_drew ?_ | refine blk_alloc ?_ _)); refine blk_put (cs := #[.int .u8 0, .int .u8 0, .int .u8 0, .int .u8 0, .int .u8 0]) ?_ 3 _ rfl; (with_reducible repeat (first | refine blk_drew ?_ | refine blk_alloc ?_ _)); refine blk_put (cs := #[.int .u8 0, .int .u8 0, .int .u8 0, .int .u8 0, .int .u8 0]) ?_ 2 _ rfl; (with_reducible repeat (first | refine blk_drew ?_ | refine blk_alloc ?_ _)); refine blk_put (cs := #[.int .u8 0, .int .u8 0, .int .u8 0, .int .u8 0, .int .u8 0]) ?_ 1 _ rfl; (with_reducible repeat (first | refine blk_drew ?_ | refine blk_alloc ?_ _)); refine blk_put (cs := #[.int .u8 0, .int .u8 0, .int .u8 0, .int .u8 0, .int .u8 0]) ?_ 0 _ rfl; (with_reducible repeat (first | refine blk_drew ?_ | refine blk_alloc ?_ _)); exact hB
  clear hW'
  have z0 : W'.cell? ⟨w.heap.size, 0, none⟩ = some (.int .u8 0) := (blk_cell hF 0).trans rfl
  have z1 : W'.cell? ⟨w.heap.size, 1, none⟩ = some (.int .u8 0) := (blk_cell hF 1).trans rfl
  have z2 : W'.cell? ⟨w.heap.size, 2, none⟩ = some (.int .u8 0) := (blk_cell hF 2).trans rfl
  have z3 : W'.cell? ⟨w.heap.size, 3, none⟩ = some (.int .u8 0) := (blk_cell hF 3).trans rfl
  have z4 : W'.cell? ⟨w.heap.size, 4, none⟩ = some (.int .u8 0) := (blk_cell hF 4).trans rfl
  exact bodyPost_ret (v := .tuple #[.agg #[.int .u8 0, .int .u8 0, .int .u8 0, .int .u8 0, .int .u8 0], .string ⟨#[]⟩, .int .i64 3]) (by simp [results, Try.results43, go_sem, z0, z1, z2, z3, z4]) rfl ⟨rfl, hBel⟩
set_option maxHeartbeats 8000000 in
set_option maxRecDepth 100000 in
theorem oam_Open.cC (k : Nat) (a0 : ByteArray) (r1 : Int) (r2 : Int) (r3 : Int) (r4 : Int) (r5 : Int) (r6 : ByteArray) (r7 : Int) (w : World) (h : oam_Open.f k a0 = some (r1, r2, r3, r4, r5, r6, r7)) (l : List Int) (rest : ByteArray) (hsp : field_Split.f k a0 [3, 5, 8, 8, 8] = some (l, rest, 0)) (c1 : ¬ (rest.size : Int) < rd l 4 % 256 + 1) (c2 : bt rest (rd l 4 % 256) = 0) :
    Calls Try.prog 43 #[.string a0] w fun e w' => e = .returned (.tuple #[.agg #[.int .u8 r1, .int .u8 r2, .int .u8 r3, .int .u8 r4, .int .u8 r5], .string r6, .int .i64 r7]) ∧ Below w.heap.size w w' := by
  unfold oam_Open.f at h
  rw [hsp] at h
  dsimp only [Option.bind_some] at h
  have huH := Try.underlying84
  have H := Lib.hid h
  have HS := Lib.hid hsp
  clear h hsp
  have h5 : (5 : Int) ≤ l.length := by
    have hh := H.out
    rw [if_pos rfl] at hh
    by_cases h5 : l.length = 5
    · omega
    · rw [if_neg h5] at hh; cases hh
  have hn0 : 0 ≤ rd l 4 % 256 := by omega
  have hn1 : rd l 4 % 256 ≤ 255 := by omega
  have c1b : decide ((rest.size : Int) < rd l 4 % 256 + 1) = false := decide_eq_false c1
  have hbt := bt_at rest (rd l 4 % 256)
  have hq : rd l 4 % 256 < (rest.size : Int) := by omega
  have c2b : (bt rest (rd l 4 % 256) == 0) = true := by rw [beq_iff_eq]; exact c2
  have c2c : (bt rest (rd l 4 % 256) != 0) = false := by rw [bne_eq_false_iff_eq]; exact c2
  go_enter Try.func43, Try.ntmps43
  go_wp2_with (go_at_call 45; refine (field_Split.calls k a0 (some ⟨w.heap.size + 1, 0, none⟩) 5 [3, 5, 8, 8, 8] l rest 0 _ (oam_Open.lit5 w _) (by decide) HS.out).mono ?_; rintro e' w1 ⟨v0, rfl, hR, hb⟩; have hB := blk_below (blk_alloc (blk_new w (.cells #[.int .u8 0, .int .u8 0, .int .u8 0, .int .u8 0, .int .u8 0] 84)) _) hb; have HBW := ((((Below.refl w.heap.size w).alloc (Nat.le_refl _) _).alloc (by simp) _).trans (hb.mono (by simp; omega))); have hz0 := (blk_cell hB 0).trans rfl; have hz1 := (blk_cell hB 1).trans rfl; have hz2 := (blk_cell hB 2).trans rfl; have hz3 := (blk_cell hB 3).trans rfl; have hz4 := (blk_cell hB 4).trans rfl; have hf0 := blk_frozen hB 0; have hf1 := blk_frozen hB 1; have hf2 := blk_frozen hB 2; have hf3 := blk_frozen hB 3; have hf4 := blk_frozen hB 4; obtain ⟨Al, cl, rfl⟩ := Kd.R_slice hR; obtain ⟨ad, eA, hx0⟩ := Kd.at_int (Kd.R_reads' hR).2.2 0 (by omega) (by omega); cases eA; obtain ⟨ad1, eA, hx1⟩ := Kd.at_int (Kd.R_reads' hR).2.2 1 (by omega) (by omega); cases eA; obtain ⟨ad1, eA, hx2⟩ := Kd.at_int (Kd.R_reads' hR).2.2 2 (by omega) (by omega); cases eA; obtain ⟨ad1, eA, hx3⟩ := Kd.at_int (Kd.R_reads' hR).2.2 3 (by omega) (by omega); cases eA; obtain ⟨ad1, eA, hx4⟩ := Kd.at_int (Kd.R_reads' hR).2.2 4 (by omega) (by omega); cases eA)
  obtain ⟨bl, ol, pl⟩ := ad
  simp only [show ((0 : Int)).toNat = 0 from rfl, show ((1 : Int)).toNat = 1 from rfl, show ((2 : Int)).toNat = 2 from rfl, show ((3 : Int)).toNat = 3 from rfl, show ((4 : Int)).toNat = 4 from rfl] at hx0 hx1 hx2 hx3 hx4
  rw [Addr.add_zero'] at hx0
  simp only [Go.Addr.add, Nat.reduceEqDiff, ↓reduceIte] at hx1 hx2 hx3 hx4
  have hy0 := (World.cell?_alloc_lt w1 (.cells #[.int .u8 0, .int .u8 0, .int .u8 0, .int .u8 0, .int .u8 0] 84) _ (World.block_lt_of_cell? w1 _ hx0)).trans hx0
  have hy1 := (World.cell?_alloc_lt w1 (.cells #[.int .u8 0, .int .u8 0, .int .u8 0, .int .u8 0, .int .u8 0] 84) _ (World.block_lt_of_cell? w1 _ hx1)).trans hx1
  have hy2 := (World.cell?_alloc_lt w1 (.cells #[.int .u8 0, .int .u8 0, .int .u8 0, .int .u8 0, .int .u8 0] 84) _ (World.block_lt_of_cell? w1 _ hx2)).trans hx2
  have hy3 := (World.cell?_alloc_lt w1 (.cells #[.int .u8 0, .int .u8 0, .int .u8 0, .int .u8 0, .int .u8 0] 84) _ (World.block_lt_of_cell? w1 _ hx3)).trans hx3
  have hy4 := (World.cell?_alloc_lt w1 (.cells #[.int .u8 0, .int .u8 0, .int .u8 0, .int .u8 0, .int .u8 0] 84) _ (World.block_lt_of_cell? w1 _ hx4)).trans hx4
  have q0 : (0 : Int) < (l.length : Int) := by omega
  have q1 : (1 : Int) < (l.length : Int) := by omega
  have q2 : (2 : Int) < (l.length : Int) := by omega
  have q3 : (3 : Int) < (l.length : Int) := by omega
  have q4 : (4 : Int) < (l.length : Int) := by omega
  have hltB := blk_lt hB
  go_region
  all_goals (try go_wp2)
  go_region
  all_goals (try go_wp2)
  have hR2 := H.out
  rw [if_pos trivial] at hR2
  have h55 : l.length = 5 := by
    by_cases h55 : l.length = 5
    · exact h55
    · rw [if_neg h55] at hR2; cases hR2
  rw [if_pos h55, if_neg (by omega)] at hR2
  rw [if_pos c2] at hR2
  simp only [Option.some.injEq, Prod.mk.injEq] at hR2
  obtain ⟨rfl, rfl, rfl, rfl, rfl, rfl, rfl⟩ := hR2
  refine oam_Open.bodyPost_W (fun W' hW' => ?_)
  have hBel : Below w.heap.size w W' := by
    rw [hW']
    repeat (first | (with_reducible exact HBW) | (with_reducible refine Below.drew ?_) | (with_reducible refine Below.alloc ?_ (by have := HBW.size; simp; omega) _) | (with_reducible refine Below.setCell ?_ (by simp) _))
  have hF : W'.heap[w.heap.size]? = some (.cells #[.int .u8 (rd l 0 % 256), .int .u8 (rd l 1 % 256), .int .u8 (rd l 2 % 256), .int .u8 (rd l 3 % 256), .int .u8 (rd l 4 % 256)] 84 (0, 0)) := by
    rw [hW']
    (with_reducible repeat (first | refine blk_drew ?_ | refine blk_alloc ?_ _)); refine blk_put (cs := #[.int .u8 (rd l 0 % 256), .int .u8 (rd l 1 % 256), .int .u8 (rd l 2 % 256), .int .u8 (rd l 3 % 256), .int .u8 0]) ?_ 4 _ rfl; (with_reducible repeat (first | refine blk_drew ?_ | refine blk_alloc ?_ _)); refine blk_put (cs := #[.int .u8 (rd l 0 % 256), .int .u8 (rd l 1 % 256), .int .u8 (rd l 2 % 256), .int .u8 0, .int .u8 0]) ?_ 3 _ rfl; (with_reducible repeat (first | refine blk_drew ?_ | refine blk_alloc ?_ _)); refine blk_put (cs := #[.int .u8 (rd l 0 % 256), .int .u8 (rd l 1 % 256), .int .u8 0, .int .u8 0, .int .u8 0]) ?_ 2 _ rfl; (with_reducible repeat (first | refine blk_drew ?_ | refine blk_alloc ?_ _)); refine blk_put (cs := #[.int .u8 (rd l 0 % 256), .int .u8 0, .int .u8 0, .int .u8 0, .int .u8 0]) ?_ 1 _ rfl; (with_reducible repeat (first | refine blk_drew ?_ | refine blk_alloc ?_ _)); refine blk_put (cs := #[.int .u8 0, .int .u8 0, .int .u8 0, .int .u8 0, .int .u8 0]) ?_ 0 _ rfl; (with_reducible repeat (first | refine blk_drew ?_ | refine blk_alloc ?_ _)); exact hB
  clear hW'
  have z0 : W'.cell? ⟨w.heap.size, 0, none⟩ = some (.int .u8 (rd l 0 % 256)) := (blk_cell hF 0).trans rfl
  have z1 : W'.cell? ⟨w.heap.size, 1, none⟩ = some (.int .u8 (rd l 1 % 256)) := (blk_cell hF 1).trans rfl
  have z2 : W'.cell? ⟨w.heap.size, 2, none⟩ = some (.int .u8 (rd l 2 % 256)) := (blk_cell hF 2).trans rfl
  have z3 : W'.cell? ⟨w.heap.size, 3, none⟩ = some (.int .u8 (rd l 3 % 256)) := (blk_cell hF 3).trans rfl
  have z4 : W'.cell? ⟨w.heap.size, 4, none⟩ = some (.int .u8 (rd l 4 % 256)) := (blk_cell hF 4).trans rfl
  exact bodyPost_ret (v := .tuple #[.agg #[.int .u8 (rd l 0 % 256), .int .u8 (rd l 1 % 256), .int .u8 (rd l 2 % 256), .int .u8 (rd l 3 % 256), .int .u8 (rd l 4 % 256)], .string (rest.extract 0 (rd l 4 % 256).toNat), .int .i64 0]) (by simp [results, Try.results43, go_sem, z0, z1, z2, z3, z4]) rfl ⟨rfl, hBel⟩
set_option maxHeartbeats 8000000 in
set_option maxRecDepth 100000 in
theorem oam_Open.calls (k : Nat) (a0 : ByteArray) (r1 : Int) (r2 : Int) (r3 : Int) (r4 : Int) (r5 : Int) (r6 : ByteArray) (r7 : Int) (w : World) (h : oam_Open.f k a0 = some (r1, r2, r3, r4, r5, r6, r7)) :
    Calls Try.prog 43 #[.string a0] w fun e w' => e = .returned (.tuple #[.agg #[.int .u8 r1, .int .u8 r2, .int .u8 r3, .int .u8 r4, .int .u8 r5], .string r6, .int .i64 r7]) ∧ Below w.heap.size w w' := by
  have h0 := h
  unfold oam_Open.f at h
  obtain ⟨⟨l, rest, e⟩, hsp, h⟩ := Option.bind_eq_some_iff.1 h
  simp only at h
  have huH := Try.underlying84
  by_cases he : e = 0
  · subst he
    by_cases c1 : (rest.size : Int) < rd l 4 % 256 + 1
    · exact oam_Open.cA k a0 r1 r2 r3 r4 r5 r6 r7 w h0 l rest hsp c1
    · by_cases c2 : bt rest (rd l 4 % 256) = 0
      · exact oam_Open.cC k a0 r1 r2 r3 r4 r5 r6 r7 w h0 l rest hsp c1 c2
      · exact oam_Open.cB k a0 r1 r2 r3 r4 r5 r6 r7 w h0 l rest hsp c1 c2
  · have H := Lib.hid h
    have HS := Lib.hid hsp
    clear h hsp h0
    have hb0 : (e != 0) = true := by rw [bne_iff_ne]; exact he
    have hb1 : (e == 0) = false := by rw [beq_eq_false_iff_ne]; exact he
    go_enter Try.func43, Try.ntmps43
    go_wp2_with (go_at_call 45; refine (field_Split.calls k a0 (some ⟨w.heap.size + 1, 0, none⟩) 5 [3, 5, 8, 8, 8] l rest e _ (oam_Open.lit5 w _) (by decide) HS.out).mono ?_; rintro e' w1 ⟨v0, rfl, hR, hb⟩; have hB := blk_below (blk_alloc (blk_new w (.cells #[.int .u8 0, .int .u8 0, .int .u8 0, .int .u8 0, .int .u8 0] 84)) _) hb; have HBW := ((((Below.refl w.heap.size w).alloc (Nat.le_refl _) _).alloc (by simp) _).trans (hb.mono (by simp; omega))); have hz0 := (blk_cell hB 0).trans rfl; have hz1 := (blk_cell hB 1).trans rfl; have hz2 := (blk_cell hB 2).trans rfl; have hz3 := (blk_cell hB 3).trans rfl; have hz4 := (blk_cell hB 4).trans rfl; have hf0 := blk_frozen hB 0; have hf1 := blk_frozen hB 1; have hf2 := blk_frozen hB 2; have hf3 := blk_frozen hB 3; have hf4 := blk_frozen hB 4; obtain ⟨Al, cl, rfl⟩ := Kd.R_slice hR)
    have hR2 := H.out
    rw [if_neg he] at hR2
    simp only [Option.some.injEq, Prod.mk.injEq] at hR2
    obtain ⟨rfl, rfl, rfl, rfl, rfl, rfl, rfl⟩ := hR2
    exact bodyPost_ret (v := .tuple #[.agg #[.int .u8 0, .int .u8 0, .int .u8 0, .int .u8 0, .int .u8 0], .string ⟨#[]⟩, .int .i64 e]) (by simp [results, Try.results43, go_sem, hz0, hz1, hz2, hz3, hz4]) rfl ⟨rfl, (by repeat (first | (with_reducible exact HBW) | (with_reducible refine Below.drew ?_) | (with_reducible refine Below.setCell ?_ (by simp) _)))⟩


end Go.Proofs.Ytapicoienpbdfaa.PWatchSends
