-- Written by a program of this work, after the translation.
import Derived.Test.YtmdaaphjndjakafPAllx0
import Derived.Test.YtmdaaphjndjakafPAllx1
import Derived.Test.YtmdaaphjndjakafPAllx8
import Derived.Test.YtmdaaphjndjakafPAllx9
import Derived.Test.YtmdaaphjndjakafPAllx19
namespace Go.Proofs.Ytmdaaphjndjakaf.PAll
open Go.RowKit Go.Proofs.YtmdaaphjndjakafW.PrintWords Go.Proofs.YtmdaaphjndjakafW.PrintLast Go.Proofs.YtmdaaphjndjakafW.PrintMore
attribute [local go_sem] max2_int min2_int max_two min_two max_three min_three max_four min_four   -- for this text's walks alone
set_option linter.unusedVariables false
set_option linter.unusedSimpArgs false

attribute [local go_sem high] eqA26
/-! ### carousellaw05_RapsBack: function 6 -/
mutual
def carousellaw05_RapsBack.j1 : Nat → Int → ByteArray → Option (Bool)
  | 0, _, _ => none
  | k + 1, x1, x3 => (raps_Open.f k x3 x1).bind fun bt339 => (if bt339.2.2.2.2.2 = 0 then (carousellaw05_RapsBack.j2 k x1 x3 bt339.2.2.2.2.2 ((x3.size : Int) != 37) bt339.1 bt339.2.1 bt339.2.2.1 bt339.2.2.2.1 bt339.2.2.2.2.1) else (carousellaw05_RapsBack.j2 k x1 x3 bt339.2.2.2.2.2 true bt339.1 bt339.2.1 bt339.2.2.1 bt339.2.2.2.1 bt339.2.2.2.2.1))
def carousellaw05_RapsBack.j2 : Nat → Int → ByteArray → Int → Bool → Int → Bool → Bool → Bool → Int → Option (Bool)
  | 0, _, _, _, _, _, _, _, _, _ => none
  | k + 1, x1, x3, x16, x69, x346000, x346001, x346002, x346003, x346004 => if x69 = true then ((carousellaw05_Awake.f k).bind fun t346 => (if t346 = true then (if x16 = 0 then (some true) else (some (x346000 == 0 && (!x346001 && (!x346002 && (!x346003 && (x346004 == 0))))))) else (some false))) else ((raps_Close.f k x346000 x346001 x346002 x346003 x346004 x1).bind fun bt347 => ((carousellaw05_Awake.f k).bind fun t349 => (if t349 = true then (if bt347.2 = 0 then (some (bt347.1.toList == x3.toList)) else (some false)) else (some false))))
def carousellaw05_RapsBack.j0 : Nat → Int → ByteArray → Bool → Option (Bool)
  | 0, _, _, _ => none
  | k + 1, x1, x3, x56 => if x56 = true then (some false) else (carousellaw05_RapsBack.j1 k x1 x3)
end
def carousellaw05_RapsBack.f (k : Nat) (a0_0 : Int) (a0_1 : Bool) (a0_2 : Bool) (a0_3 : Bool) (a0_4 : Int) (a1 : Int) (a2 : Int) (a3 : ByteArray) : Option (Bool) := if (a3.size : Int) > 600 then ((carousellaw05_Awake.f k).bind fun t322 => (some t322)) else ((raps_Close.f k a0_0 a0_1 a0_2 a0_3 a0_4 a1).bind fun bt323 => (if bt323.2 = 0 then ((raps_Open.f k bt323.1 a1).bind fun bt325 => ((raps_Open.f k bt323.1 a2).bind fun bt332 => (if bt325.2.2.2.2.2 = 0 then (if (!(bt325.1 == a0_0) || (!(bt325.2.1 == a0_1) || (!(bt325.2.2.1 == a0_2) || (!(bt325.2.2.2.1 == a0_3) || (!(bt325.2.2.2.2.1 == a0_4)))))) = true then (carousellaw05_RapsBack.j0 k a1 a3 true) else (carousellaw05_RapsBack.j0 k a1 a3 ((bt332.2.2.2.2.2 == 0) != (a2 == a1)))) else (carousellaw05_RapsBack.j0 k a1 a3 true)))) else (carousellaw05_RapsBack.j1 k a1 a3)))
theorem carousellaw05_RapsBack.mono_l : ∀ k, (∀ y0 y1, LeO (carousellaw05_RapsBack.j1 k y0 y1) (carousellaw05_RapsBack.j1 (k + 1) y0 y1)) ∧ (∀ y0 y1 y2 y3 y4 y5 y6 y7 y8, LeO (carousellaw05_RapsBack.j2 k y0 y1 y2 y3 y4 y5 y6 y7 y8) (carousellaw05_RapsBack.j2 (k + 1) y0 y1 y2 y3 y4 y5 y6 y7 y8)) ∧ (∀ y0 y1 y2, LeO (carousellaw05_RapsBack.j0 k y0 y1 y2) (carousellaw05_RapsBack.j0 (k + 1) y0 y1 y2))
  | 0 => ⟨fun _ _ r h => by simp [carousellaw05_RapsBack.j1] at h, fun _ _ _ _ _ _ _ _ _ r h => by simp [carousellaw05_RapsBack.j2] at h, fun _ _ _ r h => by simp [carousellaw05_RapsBack.j0] at h⟩
  | k + 1 => by
    obtain ⟨ih0, ih1, ih2⟩ := carousellaw05_RapsBack.mono_l k
    refine ⟨?_, ?_, ?_⟩
    · intro y0 y1
      unfold carousellaw05_RapsBack.j1
      repeat' first
      | (with_reducible exact ih0 _ _)
      | (with_reducible exact ih1 _ _ _ _ _ _ _ _ _)
      | (with_reducible exact ih2 _ _ _)
      | (with_reducible exact carousellaw05_Awake.mono _)
      | (with_reducible exact raps_Close.mono _ _ _ _ _ _ _)
      | (with_reducible exact raps_Open.mono _ _ _)
      | (with_reducible exact LeO.refl _)
      | (with_reducible exact LeO.none _)
      | (with_reducible refine LeO.ite ?_ ?_)
      | (with_reducible refine LeO.bind ?_ (fun _ => ?_))
      | exact ih0 _ _
      | exact ih1 _ _ _ _ _ _ _ _ _
      | exact ih2 _ _ _
      | exact carousellaw05_Awake.mono _
      | exact raps_Close.mono _ _ _ _ _ _ _
      | exact raps_Open.mono _ _ _
      | exact LeO.none _
      | refine LeO.ite ?_ ?_
      | refine LeO.bind ?_ (fun _ => ?_)
    · intro y0 y1 y2 y3 y4 y5 y6 y7 y8
      unfold carousellaw05_RapsBack.j2
      repeat' first
      | (with_reducible exact ih0 _ _)
      | (with_reducible exact ih1 _ _ _ _ _ _ _ _ _)
      | (with_reducible exact ih2 _ _ _)
      | (with_reducible exact carousellaw05_Awake.mono _)
      | (with_reducible exact raps_Close.mono _ _ _ _ _ _ _)
      | (with_reducible exact raps_Open.mono _ _ _)
      | (with_reducible exact LeO.refl _)
      | (with_reducible exact LeO.none _)
      | (with_reducible refine LeO.ite ?_ ?_)
      | (with_reducible refine LeO.bind ?_ (fun _ => ?_))
      | exact ih0 _ _
      | exact ih1 _ _ _ _ _ _ _ _ _
      | exact ih2 _ _ _
      | exact carousellaw05_Awake.mono _
      | exact raps_Close.mono _ _ _ _ _ _ _
      | exact raps_Open.mono _ _ _
      | exact LeO.none _
      | refine LeO.ite ?_ ?_
      | refine LeO.bind ?_ (fun _ => ?_)
    · intro y0 y1 y2
      unfold carousellaw05_RapsBack.j0
      repeat' first
      | (with_reducible exact ih0 _ _)
      | (with_reducible exact ih1 _ _ _ _ _ _ _ _ _)
      | (with_reducible exact ih2 _ _ _)
      | (with_reducible exact carousellaw05_Awake.mono _)
      | (with_reducible exact raps_Close.mono _ _ _ _ _ _ _)
      | (with_reducible exact raps_Open.mono _ _ _)
      | (with_reducible exact LeO.refl _)
      | (with_reducible exact LeO.none _)
      | (with_reducible refine LeO.ite ?_ ?_)
      | (with_reducible refine LeO.bind ?_ (fun _ => ?_))
      | exact ih0 _ _
      | exact ih1 _ _ _ _ _ _ _ _ _
      | exact ih2 _ _ _
      | exact carousellaw05_Awake.mono _
      | exact raps_Close.mono _ _ _ _ _ _ _
      | exact raps_Open.mono _ _ _
      | exact LeO.none _
      | refine LeO.ite ?_ ?_
      | refine LeO.bind ?_ (fun _ => ?_)
theorem carousellaw05_RapsBack.mono : ∀ a0 a1 a2 a3 a4 a5 a6 a7 k, LeO (carousellaw05_RapsBack.f k a0 a1 a2 a3 a4 a5 a6 a7) (carousellaw05_RapsBack.f (k + 1) a0 a1 a2 a3 a4 a5 a6 a7) := by
  intro a0 a1 a2 a3 a4 a5 a6 a7 k
  obtain ⟨ih0, ih1, ih2⟩ := carousellaw05_RapsBack.mono_l k
  unfold carousellaw05_RapsBack.f
  repeat' first
      | (with_reducible exact ih0 _ _)
      | (with_reducible exact ih1 _ _ _ _ _ _ _ _ _)
      | (with_reducible exact ih2 _ _ _)
      | (with_reducible exact carousellaw05_Awake.mono _)
      | (with_reducible exact raps_Close.mono _ _ _ _ _ _ _)
      | (with_reducible exact raps_Open.mono _ _ _)
      | (with_reducible exact LeO.refl _)
      | (with_reducible exact LeO.none _)
      | (with_reducible refine LeO.ite ?_ ?_)
      | (with_reducible refine LeO.bind ?_ (fun _ => ?_))
      | exact ih0 _ _
      | exact ih1 _ _ _ _ _ _ _ _ _
      | exact ih2 _ _ _
      | exact carousellaw05_Awake.mono _
      | exact raps_Close.mono _ _ _ _ _ _ _
      | exact raps_Open.mono _ _ _
      | exact LeO.none _
      | refine LeO.ite ?_ ?_
      | refine LeO.bind ?_ (fun _ => ?_)
set_option maxHeartbeats 8000000 in
set_option maxRecDepth 100000 in
theorem carousellaw05_RapsBack.calls (k : Nat) (a0_0 : Int) (a0_1 : Bool) (a0_2 : Bool) (a0_3 : Bool) (a0_4 : Int) (a1 : Int) (a2 : Int) (a3 : ByteArray) (r : Bool) (w : World) (h : carousellaw05_RapsBack.f k a0_0 a0_1 a0_2 a0_3 a0_4 a1 a2 a3 = some r) :
    Calls Try.prog 6 #[.agg #[.int .u8 a0_0, .bool a0_1, .bool a0_2, .bool a0_3, .int .u64 a0_4], .int .u8 a1, .int .u8 a2, .string a3] w fun e w' => e = .returned (.bool r) ∧ Below w.heap.size w w' := by
  have hu26 := Try.underlying26
  have HB := Aside0.mk (Below.refl w.heap.size w)
  have H : (if (a3.size : Int) > 600 then ((carousellaw05_Awake.f k).bind fun t322 => (some t322)) else ((raps_Close.f k a0_0 a0_1 a0_2 a0_3 a0_4 a1).bind fun bt323 => (if bt323.2 = 0 then ((raps_Open.f k bt323.1 a1).bind fun bt325 => ((raps_Open.f k bt323.1 a2).bind fun bt332 => (if bt325.2.2.2.2.2 = 0 then (if (!(bt325.1 == a0_0) || (!(bt325.2.1 == a0_1) || (!(bt325.2.2.1 == a0_2) || (!(bt325.2.2.2.1 == a0_3) || (!(bt325.2.2.2.2.1 == a0_4)))))) = true then (carousellaw05_RapsBack.j0 k a1 a3 true) else (carousellaw05_RapsBack.j0 k a1 a3 ((bt332.2.2.2.2.2 == 0) != (a2 == a1)))) else (carousellaw05_RapsBack.j0 k a1 a3 true)))) else (carousellaw05_RapsBack.j1 k a1 a3)))) = some r := h
  clear h
  by_cases c5 : (a3.size : Int) > 600
  · rw [if_pos c5] at H
    have c5b0 : decide (600 < (a3.size : Int)) = true := decide_eq_true c5
    have c5b1 : decide (600 < a3.size) = true := decide_eq_true (by omega)
    clear c5
    replace H := Option.bind_eq_some_iff.mp H
    obtain ⟨t322, A60, H⟩ := H
    replace H : (some t322) = some r := H
    have A6 := Aside0.mk A60
    clear A60
    obtain rfl := Option.some.inj H
    go_enter Try.func6, Try.ntmps6
    go_wp2_with (first | ((with_reducible refine gate_dst (N := 4) rfl ?_); (try (refine gate_guard (by rfl) ?_; dsimp only)); refine box_event ?hg (N := 4) ?hd (cs := #[.int .u8 a0_0, .bool a0_1, .bool a0_2, .bool a0_3, .int .u64 a0_4]) (t := 26) ?hr ?_; (case hd => rfl); (case hg => rfl); (case hr => first | (go_simp; done) | (go_simp; rfl)); intro gb321 hg w7 hbox hb; have n0_ := Aside0.mk (below_step (by repeat (first | (with_reducible first | exact HB.out | apply below_alloc | apply pw_below_drewN | apply below_drew1) | exact HB.out)) hb); have n1_ := Aside0.mk (hbox); have n2_ := Aside0.mk ((by rw [hg]; exact (below_size (by repeat (first | (with_reducible first | exact HB.out | apply below_alloc | apply pw_below_drewN | apply below_drew1) | exact HB.out))) : w.heap.size ≤ gb321)); have n3_ := Aside0.mk ((by rw [hg]; exact (below_size (by repeat (first | (with_reducible first | exact HB.out | apply below_alloc | apply pw_below_drewN | apply below_drew1) | exact HB.out))) : w.heap.size ≤ gb321)); clear HB; have HB := n0_; have BK321 := n1_; have GW321 := n2_; have GE321 := n3_; clear n0_ n1_ n2_ n3_; clear hb hbox hg) | ((with_reducible refine gate_callee (f := 21) rfl ?_); refine goesL_ (some 21) rfl rfl Try.func21 (by kernel_rfl) rfl #[] rfl (by (try simp only [List.map_toArray, List.map_cons, List.map_nil]); first | done | rfl | (simp only [List.length_drop, List.length_take]; rfl)) ?_; (with_reducible refine (carousellaw05_Awake.calls k  t322 _ A6.out).mono ?_); rintro e w8 ⟨rfl, hb⟩; refine ⟨_, rfl, ?_⟩; have n0_ := Aside0.mk (blk_below (g := gb321) (o := .cells #[.int .u8 a0_0, .bool a0_1, .bool a0_2, .bool a0_3, .int .u64 a0_4] 26 (0, 0)) (by (with_reducible repeat (first | refine blk_drewN ?_ _ | refine blk_drew ?_ | refine blk_alloc ?_ _)); exact BK321.out) hb); have n1_ := Aside0.mk (below_step (by repeat (first | (with_reducible first | exact HB.out | apply below_alloc | apply pw_below_drewN | apply below_drew1 | refine below_set ?_ GE321.out) | exact HB.out)) hb); clear BK321; clear HB; have BK321 := n0_; have HB := n1_; clear n0_ n1_; (try clear hb); (try clear hb2); (try clear hk); (try clear hi)))
    go_ret
    exact ⟨by first | rfl | (simp [errW_none, errW_some] <;> rfl) | (simp [*, errW_none, errW_some] <;> rfl), by repeat (first | (with_reducible first | exact HB.out | apply below_alloc | apply pw_below_drewN | apply below_drew1 | refine below_set ?_ GE321.out) | exact HB.out)⟩
  · rw [if_neg c5] at H
    have c5b0 : decide (600 < (a3.size : Int)) = false := decide_eq_false c5
    have c5b1 : decide (600 < a3.size) = false := decide_eq_false (by omega)
    clear c5
    replace H := Option.bind_eq_some_iff.mp H
    obtain ⟨⟨t323, t324⟩, A90, H⟩ := H
    replace H : (if t324 = 0 then ((raps_Open.f k t323 a1).bind fun bt325 => ((raps_Open.f k t323 a2).bind fun bt332 => (if bt325.2.2.2.2.2 = 0 then (if (!(bt325.1 == a0_0) || (!(bt325.2.1 == a0_1) || (!(bt325.2.2.1 == a0_2) || (!(bt325.2.2.2.1 == a0_3) || (!(bt325.2.2.2.2.1 == a0_4)))))) = true then (carousellaw05_RapsBack.j0 k a1 a3 true) else (carousellaw05_RapsBack.j0 k a1 a3 ((bt332.2.2.2.2.2 == 0) != (a2 == a1)))) else (carousellaw05_RapsBack.j0 k a1 a3 true)))) else (carousellaw05_RapsBack.j1 k a1 a3)) = some r := H
    have A9 := Aside0.mk A90
    clear A90
    have HC10 := Aside0.mk H
    clear H
    go_enter Try.func6, Try.ntmps6
    go_upto_if 29 with (first | ((with_reducible refine gate_dst (N := 4) rfl ?_); (try (refine gate_guard (by rfl) ?_; dsimp only)); refine box_event ?hg (N := 4) ?hd (cs := #[.int .u8 a0_0, .bool a0_1, .bool a0_2, .bool a0_3, .int .u64 a0_4]) (t := 26) ?hr ?_; (case hd => rfl); (case hg => rfl); (case hr => first | (go_simp; done) | (go_simp; rfl)); intro gb321 hg w11 hbox hb; have n0_ := Aside0.mk (below_step (by repeat (first | (with_reducible first | exact HB.out | apply below_alloc | apply pw_below_drewN | apply below_drew1) | exact HB.out)) hb); have n1_ := Aside0.mk (hbox); have n2_ := Aside0.mk ((by rw [hg]; exact (below_size (by repeat (first | (with_reducible first | exact HB.out | apply below_alloc | apply pw_below_drewN | apply below_drew1) | exact HB.out))) : w.heap.size ≤ gb321)); have n3_ := Aside0.mk ((by rw [hg]; exact (below_size (by repeat (first | (with_reducible first | exact HB.out | apply below_alloc | apply pw_below_drewN | apply below_drew1) | exact HB.out))) : w.heap.size ≤ gb321)); clear HB; have HB := n0_; have BK321 := n1_; have GW321 := n2_; have GE321 := n3_; clear n0_ n1_ n2_ n3_; clear hb hbox hg; have hcz12_0 : w11.cell? ⟨gb321, 0, none⟩ = some (.int .u8 a0_0) := (blk_cell BK321.out 0).trans rfl; have hcz12_1 : w11.cell? ⟨gb321, 1, none⟩ = some (.bool a0_1) := (blk_cell BK321.out 1).trans rfl; have hcz12_2 : w11.cell? ⟨gb321, 2, none⟩ = some (.bool a0_2) := (blk_cell BK321.out 2).trans rfl; have hcz12_3 : w11.cell? ⟨gb321, 3, none⟩ = some (.bool a0_3) := (blk_cell BK321.out 3).trans rfl; have hcz12_4 : w11.cell? ⟨gb321, 4, none⟩ = some (.int .u64 a0_4) := (blk_cell BK321.out 4).trans rfl; have hfz12_0 := blk_frozen BK321.out 0; have hfz12_1 := blk_frozen BK321.out 1; have hfz12_2 := blk_frozen BK321.out 2; have hfz12_3 := blk_frozen BK321.out 3; have hfz12_4 := blk_frozen BK321.out 4) | ((with_reducible refine gate_callee (f := 24) rfl ?_); refine goesL_ (some 25) rfl rfl Try.func24 (by kernel_rfl) rfl #[.agg #[.int .u8 a0_0, .bool a0_1, .bool a0_2, .bool a0_3, .int .u64 a0_4], .int .u8 a1] rfl (by (try simp only [List.map_toArray, List.map_cons, List.map_nil]); first | done | rfl | (simp only [List.length_drop, List.length_take]; rfl)) ?_; (with_reducible refine (raps_Close.calls k a0_0 a0_1 a0_2 a0_3 a0_4 a1 t323 t324 _ A9.out).mono ?_); rintro e w13 ⟨rfl, hb⟩; refine ⟨_, rfl, ?_⟩; have n0_ := Aside0.mk (blk_below (g := gb321) (o := .cells #[.int .u8 a0_0, .bool a0_1, .bool a0_2, .bool a0_3, .int .u64 a0_4] 26 (0, 0)) (by (with_reducible repeat (first | refine blk_drewN ?_ _ | refine blk_drew ?_ | refine blk_alloc ?_ _)); exact BK321.out) hb); have n1_ := Aside0.mk (below_step (by repeat (first | (with_reducible first | exact HB.out | apply below_alloc | apply pw_below_drewN | apply below_drew1 | refine below_set ?_ GE321.out) | exact HB.out)) hb); clear BK321; clear HB; have BK321 := n0_; have HB := n1_; clear n0_ n1_; (try clear hb); (try clear hb2); (try clear hk); (try clear hi)))
    (try simp only [Act.put, List.setIfInBounds_toArray, List.set_cons_zero, List.set_cons_succ])
    go_cut [] (fun wc => ∃ (kq : Nat), Aside0 (carousellaw05_RapsBack.j1 kq a1 a3 = some r) ∧ Aside0 (kq ≤ k) ∧ Aside0 (wc.heap[gb321]? = some (.cells #[.int .u8 a0_0, .bool a0_1, .bool a0_2, .bool a0_3, .int .u64 a0_4] 26 (0, 0))) ∧ Aside0 (Below w.heap.size w wc))
    case first =>
      have H := HC10.out
      clear HC10
      by_cases c14 : t324 = 0
      · rw [if_pos c14] at H
        have c14b0 : (t324 == 0) = true := beq_iff_eq.mpr c14
        have c14b1 : (t324 != 0) = false := bne_eq_false_iff_eq.mpr c14
        clear c14
        (first | rw [c14b0] | (simp only [i64_w, i32_w]; rw [c14b0]) | skip)
        replace H := Option.bind_eq_some_iff.mp H
        obtain ⟨⟨t325, t326, t327, t328, t329, t330⟩, A150, H⟩ := H
        replace H : ((raps_Open.f k t323 a2).bind fun bt332 => (if t330 = 0 then (if (!(t325 == a0_0) || (!(t326 == a0_1) || (!(t327 == a0_2) || (!(t328 == a0_3) || (!(t329 == a0_4)))))) = true then (carousellaw05_RapsBack.j0 k a1 a3 true) else (carousellaw05_RapsBack.j0 k a1 a3 ((bt332.2.2.2.2.2 == 0) != (a2 == a1)))) else (carousellaw05_RapsBack.j0 k a1 a3 true))) = some r := H
        have A15 := Aside0.mk A150
        clear A150
        replace H := Option.bind_eq_some_iff.mp H
        obtain ⟨⟨t332, t333, t334, t335, t336, t337⟩, A160, H⟩ := H
        replace H : (if t330 = 0 then (if (!(t325 == a0_0) || (!(t326 == a0_1) || (!(t327 == a0_2) || (!(t328 == a0_3) || (!(t329 == a0_4)))))) = true then (carousellaw05_RapsBack.j0 k a1 a3 true) else (carousellaw05_RapsBack.j0 k a1 a3 ((t337 == 0) != (a2 == a1)))) else (carousellaw05_RapsBack.j0 k a1 a3 true)) = some r := H
        have A16 := Aside0.mk A160
        clear A160
        have HC17 := Aside0.mk H
        clear H
        go_upto_region 7 with (first | ((with_reducible refine gate_callee (f := 22) rfl ?_); refine goesL_ (some 33) rfl rfl Try.func22 (by kernel_rfl) rfl #[.string t323, .int .u8 a1] rfl (by (try simp only [List.map_toArray, List.map_cons, List.map_nil]); first | done | rfl | (simp only [List.length_drop, List.length_take]; rfl)) ?_; (with_reducible refine (raps_Open.calls k t323 a1 t325 t326 t327 t328 t329 t330 _ A15.out).mono ?_); rintro e w18 ⟨rfl, hb⟩; refine ⟨_, rfl, ?_⟩; have n0_ := Aside0.mk (blk_below (g := gb321) (o := .cells #[.int .u8 a0_0, .bool a0_1, .bool a0_2, .bool a0_3, .int .u64 a0_4] 26 (0, 0)) (by (with_reducible repeat (first | refine blk_drewN ?_ _ | refine blk_drew ?_ | refine blk_alloc ?_ _)); exact BK321.out) hb); have n1_ := Aside0.mk (below_step (by repeat (first | (with_reducible first | exact HB.out | apply below_alloc | apply pw_below_drewN | apply below_drew1 | refine below_set ?_ GE321.out) | exact HB.out)) hb); clear BK321; clear HB; have BK321 := n0_; have HB := n1_; clear n0_ n1_; (try clear hb); (try clear hb2); (try clear hk); (try clear hi)) | ((with_reducible refine gate_dst (N := 11) rfl ?_); (try (refine gate_guard (by rfl) ?_; dsimp only)); refine box_event ?hg (N := 11) ?hd (cs := #[.int .u8 0, .bool false, .bool false, .bool false, .int .u64 0]) (t := 26) ?hr ?_; (case hd => rfl); (case hg => rfl); (case hr => first | (go_simp; done) | (go_simp; rfl)); intro gb331 hg w19 hbox hb; have n0_ := Aside0.mk (blk_below (g := gb321) (o := .cells #[.int .u8 a0_0, .bool a0_1, .bool a0_2, .bool a0_3, .int .u64 a0_4] 26 (0, 0)) (by (with_reducible repeat (first | refine blk_drewN ?_ _ | refine blk_drew ?_ | refine blk_alloc ?_ _)); exact BK321.out) hb); have n1_ := Aside0.mk (below_step (by repeat (first | (with_reducible first | exact HB.out | apply below_alloc | apply pw_below_drewN | apply below_drew1 | refine below_set ?_ GE321.out) | exact HB.out)) hb); have n2_ := Aside0.mk (hbox); have n3_ := Aside0.mk ((by rw [hg]; exact (below_size (by repeat (first | (with_reducible first | exact HB.out | apply below_alloc | apply pw_below_drewN | apply below_drew1 | refine below_set ?_ GE321.out) | exact HB.out))) : w.heap.size ≤ gb331)); have n4_ := Aside0.mk ((by rw [hg]; exact (below_size (by repeat (first | (with_reducible first | exact HB.out | apply below_alloc | apply pw_below_drewN | apply below_drew1 | refine below_set ?_ GE321.out) | exact HB.out))) : w.heap.size ≤ gb331)); have n5_ := Aside0.mk ((by rw [hg]; exact Nat.ne_of_lt (blk_lt (g := gb321) (o := .cells #[.int .u8 a0_0, .bool a0_1, .bool a0_2, .bool a0_3, .int .u64 a0_4] 26 (0, 0)) (by (with_reducible repeat (first | refine blk_drewN ?_ _ | refine blk_drew ?_ | refine blk_alloc ?_ _)); exact BK321.out)) : gb321 ≠ gb331)); have n6_ := Aside0.mk ((by rw [hg]; exact Nat.ne_of_gt (blk_lt (g := gb321) (o := .cells #[.int .u8 a0_0, .bool a0_1, .bool a0_2, .bool a0_3, .int .u64 a0_4] 26 (0, 0)) (by (with_reducible repeat (first | refine blk_drewN ?_ _ | refine blk_drew ?_ | refine blk_alloc ?_ _)); exact BK321.out)) : gb331 ≠ gb321)); clear BK321; clear HB; have BK321 := n0_; have HB := n1_; have BK331 := n2_; have GW331 := n3_; have GE331 := n4_; have NB321_331 := n5_; have NB331_321 := n6_; clear n0_ n1_ n2_ n3_ n4_ n5_ n6_; clear hb hbox hg; have hnb20 := NB331_321.out; have hnc20 := NB321_331.out; have hcz21_0 : w19.cell? ⟨gb331, 0, none⟩ = some (.int .u8 0) := (blk_cell BK331.out 0).trans rfl; have hcz21_1 : w19.cell? ⟨gb331, 1, none⟩ = some (.bool false) := (blk_cell BK331.out 1).trans rfl; have hcz21_2 : w19.cell? ⟨gb331, 2, none⟩ = some (.bool false) := (blk_cell BK331.out 2).trans rfl; have hcz21_3 : w19.cell? ⟨gb331, 3, none⟩ = some (.bool false) := (blk_cell BK331.out 3).trans rfl; have hcz21_4 : w19.cell? ⟨gb331, 4, none⟩ = some (.int .u64 0) := (blk_cell BK331.out 4).trans rfl; have hfz21_0 := blk_frozen BK331.out 0; have hfz21_1 := blk_frozen BK331.out 1; have hfz21_2 := blk_frozen BK331.out 2; have hfz21_3 := blk_frozen BK331.out 3; have hfz21_4 := blk_frozen BK331.out 4) | ((with_reducible refine gate_callee (f := 22) rfl ?_); refine goesL_ (some 39) rfl rfl Try.func22 (by kernel_rfl) rfl #[.string t323, .int .u8 a2] rfl (by (try simp only [List.map_toArray, List.map_cons, List.map_nil]); first | done | rfl | (simp only [List.length_drop, List.length_take]; rfl)) ?_; (with_reducible refine (raps_Open.calls k t323 a2 t332 t333 t334 t335 t336 t337 _ A16.out).mono ?_); rintro e w22 ⟨rfl, hb⟩; refine ⟨_, rfl, ?_⟩; have n0_ := Aside0.mk (blk_below (g := gb321) (o := .cells #[.int .u8 a0_0, .bool a0_1, .bool a0_2, .bool a0_3, .int .u64 a0_4] 26 (0, 0)) (by (with_reducible repeat (first | refine blk_drewN ?_ _ | refine blk_drew ?_ | refine blk_alloc ?_ _)); refine blk_far ?_ NB321_331.out _; (with_reducible repeat (first | refine blk_drewN ?_ _ | refine blk_drew ?_ | refine blk_alloc ?_ _)); refine blk_far ?_ NB321_331.out _; (with_reducible repeat (first | refine blk_drewN ?_ _ | refine blk_drew ?_ | refine blk_alloc ?_ _)); refine blk_far ?_ NB321_331.out _; (with_reducible repeat (first | refine blk_drewN ?_ _ | refine blk_drew ?_ | refine blk_alloc ?_ _)); refine blk_far ?_ NB321_331.out _; (with_reducible repeat (first | refine blk_drewN ?_ _ | refine blk_drew ?_ | refine blk_alloc ?_ _)); refine blk_far ?_ NB321_331.out _; (with_reducible repeat (first | refine blk_drewN ?_ _ | refine blk_drew ?_ | refine blk_alloc ?_ _)); exact BK321.out) hb); have n1_ := Aside0.mk (blk_below (g := gb331) (o := .cells #[.int .u8 t325, .bool t326, .bool t327, .bool t328, .int .u64 t329] 26 (0, 0)) (by (with_reducible repeat (first | refine blk_drewN ?_ _ | refine blk_drew ?_ | refine blk_alloc ?_ _)); refine blk_put (cs := #[.int .u8 t325, .bool t326, .bool t327, .bool t328, .int .u64 0]) ?_ 4 _ rfl; (with_reducible repeat (first | refine blk_drewN ?_ _ | refine blk_drew ?_ | refine blk_alloc ?_ _)); refine blk_put (cs := #[.int .u8 t325, .bool t326, .bool t327, .bool false, .int .u64 0]) ?_ 3 _ rfl; (with_reducible repeat (first | refine blk_drewN ?_ _ | refine blk_drew ?_ | refine blk_alloc ?_ _)); refine blk_put (cs := #[.int .u8 t325, .bool t326, .bool false, .bool false, .int .u64 0]) ?_ 2 _ rfl; (with_reducible repeat (first | refine blk_drewN ?_ _ | refine blk_drew ?_ | refine blk_alloc ?_ _)); refine blk_put (cs := #[.int .u8 t325, .bool false, .bool false, .bool false, .int .u64 0]) ?_ 1 _ rfl; (with_reducible repeat (first | refine blk_drewN ?_ _ | refine blk_drew ?_ | refine blk_alloc ?_ _)); refine blk_put (cs := #[.int .u8 0, .bool false, .bool false, .bool false, .int .u64 0]) ?_ 0 _ rfl; (with_reducible repeat (first | refine blk_drewN ?_ _ | refine blk_drew ?_ | refine blk_alloc ?_ _)); exact BK331.out) hb); have n2_ := Aside0.mk (below_step (by repeat (first | (with_reducible first | exact HB.out | apply below_alloc | apply pw_below_drewN | apply below_drew1 | refine below_set ?_ GE321.out | refine below_set ?_ GE331.out) | exact HB.out)) hb); clear BK321; clear BK331; clear HB; have BK321 := n0_; have BK331 := n1_; have HB := n2_; clear n0_ n1_ n2_; (try clear hb); (try clear hb2); (try clear hk); (try clear hi)) | ((with_reducible refine gate_dst (N := 13) rfl ?_); (try (refine gate_guard (by rfl) ?_; dsimp only)); refine box_event ?hg (N := 13) ?hd (cs := #[.int .u8 0, .bool false, .bool false, .bool false, .int .u64 0]) (t := 26) ?hr ?_; (case hd => rfl); (case hg => rfl); (case hr => first | (go_simp; done) | (go_simp; rfl)); intro gb338 hg w23 hbox hb; have n0_ := Aside0.mk (blk_below (g := gb321) (o := .cells #[.int .u8 a0_0, .bool a0_1, .bool a0_2, .bool a0_3, .int .u64 a0_4] 26 (0, 0)) (by (with_reducible repeat (first | refine blk_drewN ?_ _ | refine blk_drew ?_ | refine blk_alloc ?_ _)); exact BK321.out) hb); have n1_ := Aside0.mk (blk_below (g := gb331) (o := .cells #[.int .u8 t325, .bool t326, .bool t327, .bool t328, .int .u64 t329] 26 (0, 0)) (by (with_reducible repeat (first | refine blk_drewN ?_ _ | refine blk_drew ?_ | refine blk_alloc ?_ _)); exact BK331.out) hb); have n2_ := Aside0.mk (below_step (by repeat (first | (with_reducible first | exact HB.out | apply below_alloc | apply pw_below_drewN | apply below_drew1 | refine below_set ?_ GE321.out | refine below_set ?_ GE331.out) | exact HB.out)) hb); have n3_ := Aside0.mk (hbox); have n4_ := Aside0.mk ((by rw [hg]; exact (below_size (by repeat (first | (with_reducible first | exact HB.out | apply below_alloc | apply pw_below_drewN | apply below_drew1 | refine below_set ?_ GE321.out | refine below_set ?_ GE331.out) | exact HB.out))) : w.heap.size ≤ gb338)); have n5_ := Aside0.mk ((by rw [hg]; exact (below_size (by repeat (first | (with_reducible first | exact HB.out | apply below_alloc | apply pw_below_drewN | apply below_drew1 | refine below_set ?_ GE321.out | refine below_set ?_ GE331.out) | exact HB.out))) : w.heap.size ≤ gb338)); have n6_ := Aside0.mk ((by rw [hg]; exact Nat.ne_of_lt (blk_lt (g := gb321) (o := .cells #[.int .u8 a0_0, .bool a0_1, .bool a0_2, .bool a0_3, .int .u64 a0_4] 26 (0, 0)) (by (with_reducible repeat (first | refine blk_drewN ?_ _ | refine blk_drew ?_ | refine blk_alloc ?_ _)); exact BK321.out)) : gb321 ≠ gb338)); have n7_ := Aside0.mk ((by rw [hg]; exact Nat.ne_of_gt (blk_lt (g := gb321) (o := .cells #[.int .u8 a0_0, .bool a0_1, .bool a0_2, .bool a0_3, .int .u64 a0_4] 26 (0, 0)) (by (with_reducible repeat (first | refine blk_drewN ?_ _ | refine blk_drew ?_ | refine blk_alloc ?_ _)); exact BK321.out)) : gb338 ≠ gb321)); have n8_ := Aside0.mk ((by rw [hg]; exact Nat.ne_of_lt (blk_lt (g := gb331) (o := .cells #[.int .u8 t325, .bool t326, .bool t327, .bool t328, .int .u64 t329] 26 (0, 0)) (by (with_reducible repeat (first | refine blk_drewN ?_ _ | refine blk_drew ?_ | refine blk_alloc ?_ _)); exact BK331.out)) : gb331 ≠ gb338)); have n9_ := Aside0.mk ((by rw [hg]; exact Nat.ne_of_gt (blk_lt (g := gb331) (o := .cells #[.int .u8 t325, .bool t326, .bool t327, .bool t328, .int .u64 t329] 26 (0, 0)) (by (with_reducible repeat (first | refine blk_drewN ?_ _ | refine blk_drew ?_ | refine blk_alloc ?_ _)); exact BK331.out)) : gb338 ≠ gb331)); clear BK321; clear BK331; clear HB; have BK321 := n0_; have BK331 := n1_; have HB := n2_; have BK338 := n3_; have GW338 := n4_; have GE338 := n5_; have NB321_338 := n6_; have NB338_321 := n7_; have NB331_338 := n8_; have NB338_331 := n9_; clear n0_ n1_ n2_ n3_ n4_ n5_ n6_ n7_ n8_ n9_; clear hb hbox hg; have hnb24 := NB338_321.out; have hnc24 := NB321_338.out; have hnb25 := NB338_331.out; have hnc25 := NB331_338.out; have hcz26_0 : w23.cell? ⟨gb338, 0, none⟩ = some (.int .u8 0) := (blk_cell BK338.out 0).trans rfl; have hcz26_1 : w23.cell? ⟨gb338, 1, none⟩ = some (.bool false) := (blk_cell BK338.out 1).trans rfl; have hcz26_2 : w23.cell? ⟨gb338, 2, none⟩ = some (.bool false) := (blk_cell BK338.out 2).trans rfl; have hcz26_3 : w23.cell? ⟨gb338, 3, none⟩ = some (.bool false) := (blk_cell BK338.out 3).trans rfl; have hcz26_4 : w23.cell? ⟨gb338, 4, none⟩ = some (.int .u64 0) := (blk_cell BK338.out 4).trans rfl; have hfz26_0 := blk_frozen BK338.out 0; have hfz26_1 := blk_frozen BK338.out 1; have hfz26_2 := blk_frozen BK338.out 2; have hfz26_3 := blk_frozen BK338.out 3; have hfz26_4 := blk_frozen BK338.out 4))
        (try simp only [Act.put, List.setIfInBounds_toArray, List.set_cons_zero, List.set_cons_succ])
        go_cut [56] (fun v56 wc => ∃ (kq : Nat) (x56_16 : Bool), v56 = .bool x56_16 ∧ Aside0 (carousellaw05_RapsBack.j0 kq a1 a3 x56_16 = some r) ∧ Aside0 (kq ≤ k) ∧ Aside0 (wc.heap[gb321]? = some (.cells #[.int .u8 a0_0, .bool a0_1, .bool a0_2, .bool a0_3, .int .u64 a0_4] 26 (0, 0))) ∧ Aside0 (wc.heap[gb331]? = some (.cells #[.int .u8 t325, .bool t326, .bool t327, .bool t328, .int .u64 t329] 26 (0, 0))) ∧ Aside0 (wc.heap[gb338]? = some (.cells #[.int .u8 t332, .bool t333, .bool t334, .bool t335, .int .u64 t336] 26 (0, 0))) ∧ Aside0 (Below w.heap.size w wc))
        case first =>
          have H := HC17.out
          clear HC17
          by_cases c27 : t330 = 0
          · rw [if_pos c27] at H
            have c27b0 : (t330 == 0) = true := beq_iff_eq.mpr c27
            have c27b1 : (t330 != 0) = false := bne_eq_false_iff_eq.mpr c27
            clear c27
            (first | rw [c27b0] | (simp only [i64_w, i32_w]; rw [c27b0]) | skip)
            by_cases c28 : (!(t325 == a0_0) || (!(t326 == a0_1) || (!(t327 == a0_2) || (!(t328 == a0_3) || (!(t329 == a0_4)))))) = true
            · rw [if_pos c28] at H
              have c28b0 : (!(t325 == a0_0) || (!(t326 == a0_1) || (!(t327 == a0_2) || (!(t328 == a0_3) || (!(t329 == a0_4)))))) = true := c28
              clear c28
              have H' := Aside0.mk H
              clear H
              have hnb29 := NB331_321.out
              have hnc29 := NB321_331.out
              have hnb30 := NB331_338.out
              have hnc30 := NB338_331.out
              have hcz31_0 : w23.cell? ⟨gb331, 0, none⟩ = some (.int .u8 t325) := (blk_cell BK331.out 0).trans rfl
              have hcz31_1 : w23.cell? ⟨gb331, 1, none⟩ = some (.bool t326) := (blk_cell BK331.out 1).trans rfl
              have hcz31_2 : w23.cell? ⟨gb331, 2, none⟩ = some (.bool t327) := (blk_cell BK331.out 2).trans rfl
              have hcz31_3 : w23.cell? ⟨gb331, 3, none⟩ = some (.bool t328) := (blk_cell BK331.out 3).trans rfl
              have hcz31_4 : w23.cell? ⟨gb331, 4, none⟩ = some (.int .u64 t329) := (blk_cell BK331.out 4).trans rfl
              have hfz31_0 := blk_frozen BK331.out 0
              have hfz31_1 := blk_frozen BK331.out 1
              have hfz31_2 := blk_frozen BK331.out 2
              have hfz31_3 := blk_frozen BK331.out 3
              have hfz31_4 := blk_frozen BK331.out 4
              have hnb32 := NB321_338.out
              have hnc32 := NB338_321.out
              have hcz33_0 : w23.cell? ⟨gb321, 0, none⟩ = some (.int .u8 a0_0) := (blk_cell BK321.out 0).trans rfl
              have hcz33_1 : w23.cell? ⟨gb321, 1, none⟩ = some (.bool a0_1) := (blk_cell BK321.out 1).trans rfl
              have hcz33_2 : w23.cell? ⟨gb321, 2, none⟩ = some (.bool a0_2) := (blk_cell BK321.out 2).trans rfl
              have hcz33_3 : w23.cell? ⟨gb321, 3, none⟩ = some (.bool a0_3) := (blk_cell BK321.out 3).trans rfl
              have hcz33_4 : w23.cell? ⟨gb321, 4, none⟩ = some (.int .u64 a0_4) := (blk_cell BK321.out 4).trans rfl
              have hfz33_0 := blk_frozen BK321.out 0
              have hfz33_1 := blk_frozen BK321.out 1
              have hfz33_2 := blk_frozen BK321.out 2
              have hfz33_3 := blk_frozen BK321.out 3
              have hfz33_4 := blk_frozen BK321.out 4
              go_wp2
              go_meet
              case rel => exact ⟨_, (true), (by first | rfl | (simp; done) | (simp [*]; done)), H', ⟨by first | omega | exact Nat.le_refl _⟩, ⟨by (with_reducible repeat (first | refine blk_drewN ?_ _ | refine blk_drew ?_ | refine blk_alloc ?_ _)); refine blk_far ?_ NB321_338.out _; (with_reducible repeat (first | refine blk_drewN ?_ _ | refine blk_drew ?_ | refine blk_alloc ?_ _)); refine blk_far ?_ NB321_338.out _; (with_reducible repeat (first | refine blk_drewN ?_ _ | refine blk_drew ?_ | refine blk_alloc ?_ _)); refine blk_far ?_ NB321_338.out _; (with_reducible repeat (first | refine blk_drewN ?_ _ | refine blk_drew ?_ | refine blk_alloc ?_ _)); refine blk_far ?_ NB321_338.out _; (with_reducible repeat (first | refine blk_drewN ?_ _ | refine blk_drew ?_ | refine blk_alloc ?_ _)); refine blk_far ?_ NB321_338.out _; (with_reducible repeat (first | refine blk_drewN ?_ _ | refine blk_drew ?_ | refine blk_alloc ?_ _)); exact BK321.out⟩, ⟨by (with_reducible repeat (first | refine blk_drewN ?_ _ | refine blk_drew ?_ | refine blk_alloc ?_ _)); refine blk_far ?_ NB331_338.out _; (with_reducible repeat (first | refine blk_drewN ?_ _ | refine blk_drew ?_ | refine blk_alloc ?_ _)); refine blk_far ?_ NB331_338.out _; (with_reducible repeat (first | refine blk_drewN ?_ _ | refine blk_drew ?_ | refine blk_alloc ?_ _)); refine blk_far ?_ NB331_338.out _; (with_reducible repeat (first | refine blk_drewN ?_ _ | refine blk_drew ?_ | refine blk_alloc ?_ _)); refine blk_far ?_ NB331_338.out _; (with_reducible repeat (first | refine blk_drewN ?_ _ | refine blk_drew ?_ | refine blk_alloc ?_ _)); refine blk_far ?_ NB331_338.out _; (with_reducible repeat (first | refine blk_drewN ?_ _ | refine blk_drew ?_ | refine blk_alloc ?_ _)); exact BK331.out⟩, ⟨by (with_reducible repeat (first | refine blk_drewN ?_ _ | refine blk_drew ?_ | refine blk_alloc ?_ _)); refine blk_put (cs := #[.int .u8 t332, .bool t333, .bool t334, .bool t335, .int .u64 0]) ?_ 4 _ rfl; (with_reducible repeat (first | refine blk_drewN ?_ _ | refine blk_drew ?_ | refine blk_alloc ?_ _)); refine blk_put (cs := #[.int .u8 t332, .bool t333, .bool t334, .bool false, .int .u64 0]) ?_ 3 _ rfl; (with_reducible repeat (first | refine blk_drewN ?_ _ | refine blk_drew ?_ | refine blk_alloc ?_ _)); refine blk_put (cs := #[.int .u8 t332, .bool t333, .bool false, .bool false, .int .u64 0]) ?_ 2 _ rfl; (with_reducible repeat (first | refine blk_drewN ?_ _ | refine blk_drew ?_ | refine blk_alloc ?_ _)); refine blk_put (cs := #[.int .u8 t332, .bool false, .bool false, .bool false, .int .u64 0]) ?_ 1 _ rfl; (with_reducible repeat (first | refine blk_drewN ?_ _ | refine blk_drew ?_ | refine blk_alloc ?_ _)); refine blk_put (cs := #[.int .u8 0, .bool false, .bool false, .bool false, .int .u64 0]) ?_ 0 _ rfl; (with_reducible repeat (first | refine blk_drewN ?_ _ | refine blk_drew ?_ | refine blk_alloc ?_ _)); exact BK338.out⟩, ⟨by repeat (first | (with_reducible first | exact HB.out | apply below_alloc | apply pw_below_drewN | apply below_drew1 | refine below_set ?_ GE321.out | refine below_set ?_ GE331.out | refine below_set ?_ GE338.out) | exact HB.out)⟩⟩
            · rw [if_neg c28] at H
              have c28b0 : (!(t325 == a0_0) || (!(t326 == a0_1) || (!(t327 == a0_2) || (!(t328 == a0_3) || (!(t329 == a0_4)))))) = false := by simpa using c28
              clear c28
              have H' := Aside0.mk H
              clear H
              have hnb34 := NB331_321.out
              have hnc34 := NB321_331.out
              have hnb35 := NB331_338.out
              have hnc35 := NB338_331.out
              have hcz36_0 : w23.cell? ⟨gb331, 0, none⟩ = some (.int .u8 t325) := (blk_cell BK331.out 0).trans rfl
              have hcz36_1 : w23.cell? ⟨gb331, 1, none⟩ = some (.bool t326) := (blk_cell BK331.out 1).trans rfl
              have hcz36_2 : w23.cell? ⟨gb331, 2, none⟩ = some (.bool t327) := (blk_cell BK331.out 2).trans rfl
              have hcz36_3 : w23.cell? ⟨gb331, 3, none⟩ = some (.bool t328) := (blk_cell BK331.out 3).trans rfl
              have hcz36_4 : w23.cell? ⟨gb331, 4, none⟩ = some (.int .u64 t329) := (blk_cell BK331.out 4).trans rfl
              have hfz36_0 := blk_frozen BK331.out 0
              have hfz36_1 := blk_frozen BK331.out 1
              have hfz36_2 := blk_frozen BK331.out 2
              have hfz36_3 := blk_frozen BK331.out 3
              have hfz36_4 := blk_frozen BK331.out 4
              have hnb37 := NB321_338.out
              have hnc37 := NB338_321.out
              have hcz38_0 : w23.cell? ⟨gb321, 0, none⟩ = some (.int .u8 a0_0) := (blk_cell BK321.out 0).trans rfl
              have hcz38_1 : w23.cell? ⟨gb321, 1, none⟩ = some (.bool a0_1) := (blk_cell BK321.out 1).trans rfl
              have hcz38_2 : w23.cell? ⟨gb321, 2, none⟩ = some (.bool a0_2) := (blk_cell BK321.out 2).trans rfl
              have hcz38_3 : w23.cell? ⟨gb321, 3, none⟩ = some (.bool a0_3) := (blk_cell BK321.out 3).trans rfl
              have hcz38_4 : w23.cell? ⟨gb321, 4, none⟩ = some (.int .u64 a0_4) := (blk_cell BK321.out 4).trans rfl
              have hfz38_0 := blk_frozen BK321.out 0
              have hfz38_1 := blk_frozen BK321.out 1
              have hfz38_2 := blk_frozen BK321.out 2
              have hfz38_3 := blk_frozen BK321.out 3
              have hfz38_4 := blk_frozen BK321.out 4
              go_wp2
              go_meet
              case rel => exact ⟨_, (((t337 == 0) != (a2 == a1))), (by first | rfl | (simp; done) | (simp [*]; done)), H', ⟨by first | omega | exact Nat.le_refl _⟩, ⟨by (with_reducible repeat (first | refine blk_drewN ?_ _ | refine blk_drew ?_ | refine blk_alloc ?_ _)); refine blk_far ?_ NB321_338.out _; (with_reducible repeat (first | refine blk_drewN ?_ _ | refine blk_drew ?_ | refine blk_alloc ?_ _)); refine blk_far ?_ NB321_338.out _; (with_reducible repeat (first | refine blk_drewN ?_ _ | refine blk_drew ?_ | refine blk_alloc ?_ _)); refine blk_far ?_ NB321_338.out _; (with_reducible repeat (first | refine blk_drewN ?_ _ | refine blk_drew ?_ | refine blk_alloc ?_ _)); refine blk_far ?_ NB321_338.out _; (with_reducible repeat (first | refine blk_drewN ?_ _ | refine blk_drew ?_ | refine blk_alloc ?_ _)); refine blk_far ?_ NB321_338.out _; (with_reducible repeat (first | refine blk_drewN ?_ _ | refine blk_drew ?_ | refine blk_alloc ?_ _)); exact BK321.out⟩, ⟨by (with_reducible repeat (first | refine blk_drewN ?_ _ | refine blk_drew ?_ | refine blk_alloc ?_ _)); refine blk_far ?_ NB331_338.out _; (with_reducible repeat (first | refine blk_drewN ?_ _ | refine blk_drew ?_ | refine blk_alloc ?_ _)); refine blk_far ?_ NB331_338.out _; (with_reducible repeat (first | refine blk_drewN ?_ _ | refine blk_drew ?_ | refine blk_alloc ?_ _)); refine blk_far ?_ NB331_338.out _; (with_reducible repeat (first | refine blk_drewN ?_ _ | refine blk_drew ?_ | refine blk_alloc ?_ _)); refine blk_far ?_ NB331_338.out _; (with_reducible repeat (first | refine blk_drewN ?_ _ | refine blk_drew ?_ | refine blk_alloc ?_ _)); refine blk_far ?_ NB331_338.out _; (with_reducible repeat (first | refine blk_drewN ?_ _ | refine blk_drew ?_ | refine blk_alloc ?_ _)); exact BK331.out⟩, ⟨by (with_reducible repeat (first | refine blk_drewN ?_ _ | refine blk_drew ?_ | refine blk_alloc ?_ _)); refine blk_put (cs := #[.int .u8 t332, .bool t333, .bool t334, .bool t335, .int .u64 0]) ?_ 4 _ rfl; (with_reducible repeat (first | refine blk_drewN ?_ _ | refine blk_drew ?_ | refine blk_alloc ?_ _)); refine blk_put (cs := #[.int .u8 t332, .bool t333, .bool t334, .bool false, .int .u64 0]) ?_ 3 _ rfl; (with_reducible repeat (first | refine blk_drewN ?_ _ | refine blk_drew ?_ | refine blk_alloc ?_ _)); refine blk_put (cs := #[.int .u8 t332, .bool t333, .bool false, .bool false, .int .u64 0]) ?_ 2 _ rfl; (with_reducible repeat (first | refine blk_drewN ?_ _ | refine blk_drew ?_ | refine blk_alloc ?_ _)); refine blk_put (cs := #[.int .u8 t332, .bool false, .bool false, .bool false, .int .u64 0]) ?_ 1 _ rfl; (with_reducible repeat (first | refine blk_drewN ?_ _ | refine blk_drew ?_ | refine blk_alloc ?_ _)); refine blk_put (cs := #[.int .u8 0, .bool false, .bool false, .bool false, .int .u64 0]) ?_ 0 _ rfl; (with_reducible repeat (first | refine blk_drewN ?_ _ | refine blk_drew ?_ | refine blk_alloc ?_ _)); exact BK338.out⟩, ⟨by repeat (first | (with_reducible first | exact HB.out | apply below_alloc | apply pw_below_drewN | apply below_drew1 | refine below_set ?_ GE321.out | refine below_set ?_ GE331.out | refine below_set ?_ GE338.out) | exact HB.out)⟩⟩
          · rw [if_neg c27] at H
            have c27b0 : (t330 == 0) = false := beq_eq_false_iff_ne.mpr c27
            have c27b1 : (t330 != 0) = true := bne_iff_ne.mpr c27
            (first | rw [c27b0] | (simp only [i64_w, i32_w]; rw [c27b0]) | skip)
            have H' := Aside0.mk H
            clear H
            go_wp2
            go_meet
            case rel => exact ⟨_, (true), (by first | rfl | (simp; done) | (simp [*]; done)), H', ⟨by first | omega | exact Nat.le_refl _⟩, ⟨by (with_reducible repeat (first | refine blk_drewN ?_ _ | refine blk_drew ?_ | refine blk_alloc ?_ _)); refine blk_far ?_ NB321_338.out _; (with_reducible repeat (first | refine blk_drewN ?_ _ | refine blk_drew ?_ | refine blk_alloc ?_ _)); refine blk_far ?_ NB321_338.out _; (with_reducible repeat (first | refine blk_drewN ?_ _ | refine blk_drew ?_ | refine blk_alloc ?_ _)); refine blk_far ?_ NB321_338.out _; (with_reducible repeat (first | refine blk_drewN ?_ _ | refine blk_drew ?_ | refine blk_alloc ?_ _)); refine blk_far ?_ NB321_338.out _; (with_reducible repeat (first | refine blk_drewN ?_ _ | refine blk_drew ?_ | refine blk_alloc ?_ _)); refine blk_far ?_ NB321_338.out _; (with_reducible repeat (first | refine blk_drewN ?_ _ | refine blk_drew ?_ | refine blk_alloc ?_ _)); exact BK321.out⟩, ⟨by (with_reducible repeat (first | refine blk_drewN ?_ _ | refine blk_drew ?_ | refine blk_alloc ?_ _)); refine blk_far ?_ NB331_338.out _; (with_reducible repeat (first | refine blk_drewN ?_ _ | refine blk_drew ?_ | refine blk_alloc ?_ _)); refine blk_far ?_ NB331_338.out _; (with_reducible repeat (first | refine blk_drewN ?_ _ | refine blk_drew ?_ | refine blk_alloc ?_ _)); refine blk_far ?_ NB331_338.out _; (with_reducible repeat (first | refine blk_drewN ?_ _ | refine blk_drew ?_ | refine blk_alloc ?_ _)); refine blk_far ?_ NB331_338.out _; (with_reducible repeat (first | refine blk_drewN ?_ _ | refine blk_drew ?_ | refine blk_alloc ?_ _)); refine blk_far ?_ NB331_338.out _; (with_reducible repeat (first | refine blk_drewN ?_ _ | refine blk_drew ?_ | refine blk_alloc ?_ _)); exact BK331.out⟩, ⟨by (with_reducible repeat (first | refine blk_drewN ?_ _ | refine blk_drew ?_ | refine blk_alloc ?_ _)); refine blk_put (cs := #[.int .u8 t332, .bool t333, .bool t334, .bool t335, .int .u64 0]) ?_ 4 _ rfl; (with_reducible repeat (first | refine blk_drewN ?_ _ | refine blk_drew ?_ | refine blk_alloc ?_ _)); refine blk_put (cs := #[.int .u8 t332, .bool t333, .bool t334, .bool false, .int .u64 0]) ?_ 3 _ rfl; (with_reducible repeat (first | refine blk_drewN ?_ _ | refine blk_drew ?_ | refine blk_alloc ?_ _)); refine blk_put (cs := #[.int .u8 t332, .bool t333, .bool false, .bool false, .int .u64 0]) ?_ 2 _ rfl; (with_reducible repeat (first | refine blk_drewN ?_ _ | refine blk_drew ?_ | refine blk_alloc ?_ _)); refine blk_put (cs := #[.int .u8 t332, .bool false, .bool false, .bool false, .int .u64 0]) ?_ 1 _ rfl; (with_reducible repeat (first | refine blk_drewN ?_ _ | refine blk_drew ?_ | refine blk_alloc ?_ _)); refine blk_put (cs := #[.int .u8 0, .bool false, .bool false, .bool false, .int .u64 0]) ?_ 0 _ rfl; (with_reducible repeat (first | refine blk_drewN ?_ _ | refine blk_drew ?_ | refine blk_alloc ?_ _)); exact BK338.out⟩, ⟨by repeat (first | (with_reducible first | exact HB.out | apply below_alloc | apply pw_below_drewN | apply below_drew1 | refine below_set ?_ GE321.out | refine below_set ?_ GE331.out | refine below_set ?_ GE338.out) | exact HB.out)⟩⟩
        case rest =>
          clear HC17
          try clear c1
          try clear c2
          try clear p2
          try clear c3
          try clear c5
          try clear c5b0
          try clear c5b1
          try clear c6
          try clear c14
          try clear c14b0
          try clear c14b1
          try clear c20
          try clear c21
          try clear c22
          try clear c24
          try clear c25
          try clear c27
          try clear c27b0
          try clear c27b1
          try clear c28
          try clear c28b0
          try clear c29
          try clear c30
          try clear c32
          try clear c34
          try clear c35
          try clear c37
          try clear hcz12_0
          try clear hcz12_1
          try clear hcz12_2
          try clear hcz12_3
          try clear hcz12_4
          try clear hcz21_0
          try clear hcz21_1
          try clear hcz21_2
          try clear hcz21_3
          try clear hcz21_4
          try clear hcz26_0
          try clear hcz26_1
          try clear hcz26_2
          try clear hcz26_3
          try clear hcz26_4
          try clear hcz31_0
          try clear hcz31_1
          try clear hcz31_2
          try clear hcz31_3
          try clear hcz31_4
          try clear hcz33_0
          try clear hcz33_1
          try clear hcz33_2
          try clear hcz33_3
          try clear hcz33_4
          try clear hcz36_0
          try clear hcz36_1
          try clear hcz36_2
          try clear hcz36_3
          try clear hcz36_4
          try clear hcz38_0
          try clear hcz38_1
          try clear hcz38_2
          try clear hcz38_3
          try clear hcz38_4
          try clear hfz12_0
          try clear hfz12_1
          try clear hfz12_2
          try clear hfz12_3
          try clear hfz12_4
          try clear hfz21_0
          try clear hfz21_1
          try clear hfz21_2
          try clear hfz21_3
          try clear hfz21_4
          try clear hfz26_0
          try clear hfz26_1
          try clear hfz26_2
          try clear hfz26_3
          try clear hfz26_4
          try clear hfz31_0
          try clear hfz31_1
          try clear hfz31_2
          try clear hfz31_3
          try clear hfz31_4
          try clear hfz33_0
          try clear hfz33_1
          try clear hfz33_2
          try clear hfz33_3
          try clear hfz33_4
          try clear hfz36_0
          try clear hfz36_1
          try clear hfz36_2
          try clear hfz36_3
          try clear hfz36_4
          try clear hfz38_0
          try clear hfz38_1
          try clear hfz38_2
          try clear hfz38_3
          try clear hfz38_4
          obtain ⟨kq, x56_16, rfl, HA, HJ16, BK321, BK331, BK338, HB⟩ := hcut
          cases kq with
          | zero => exact absurd HA.out (by simp [carousellaw05_RapsBack.j0])
          | succ kj16 =>
            have H := HA.out
            clear HA
            simp only [carousellaw05_RapsBack.j0] at H
            by_cases c39 : x56_16 = true
            · subst c39
              have H1 : (some false) = some r := by rw [if_pos rfl] at H; exact H
              clear H
              have H := H1
              clear H1
              obtain rfl := Option.some.inj H
              go_wp2
              go_ret
              exact ⟨by first | rfl | (simp [errW_none, errW_some] <;> rfl) | (simp [*, errW_none, errW_some] <;> rfl), by repeat (first | (with_reducible first | exact HB.out | apply below_alloc | apply pw_below_drewN | apply below_drew1 | refine below_set ?_ GE321.out | refine below_set ?_ GE331.out | refine below_set ?_ GE338.out) | exact HB.out)⟩
            · replace c39 := Bool.eq_false_iff.mpr c39
              subst c39
              have H1 : (carousellaw05_RapsBack.j1 kj16 a1 a3) = some r := by rw [if_neg (show ¬ (false = true) by decide)] at H; exact H
              clear H
              have H := H1
              clear H1
              have H' := Aside0.mk H
              clear H
              go_wp2
              go_meet
              case rel => exact ⟨_, H', ⟨by have := HJ16.out; first | omega | exact Nat.le_refl _⟩, ⟨by (with_reducible repeat (first | refine blk_drewN ?_ _ | refine blk_drew ?_ | refine blk_alloc ?_ _)); exact BK321.out⟩, ⟨by repeat (first | (with_reducible first | exact HB.out | apply below_alloc | apply pw_below_drewN | apply below_drew1 | refine below_set ?_ GE321.out | refine below_set ?_ GE331.out | refine below_set ?_ GE338.out) | exact HB.out)⟩⟩
      · rw [if_neg c14] at H
        have c14b0 : (t324 == 0) = false := beq_eq_false_iff_ne.mpr c14
        have c14b1 : (t324 != 0) = true := bne_iff_ne.mpr c14
        (first | rw [c14b0] | (simp only [i64_w, i32_w]; rw [c14b0]) | skip)
        have H' := Aside0.mk H
        clear H
        go_wp2
        go_meet
        case rel => exact ⟨_, H', ⟨by first | omega | exact Nat.le_refl _⟩, ⟨by (with_reducible repeat (first | refine blk_drewN ?_ _ | refine blk_drew ?_ | refine blk_alloc ?_ _)); exact BK321.out⟩, ⟨by repeat (first | (with_reducible first | exact HB.out | apply below_alloc | apply pw_below_drewN | apply below_drew1 | refine below_set ?_ GE321.out) | exact HB.out)⟩⟩
    case rest =>
      clear HC10
      try clear c1
      try clear c2
      try clear p2
      try clear c3
      try clear c5
      try clear c5b0
      try clear c5b1
      try clear c6
      try clear c14
      try clear c14b0
      try clear c14b1
      try clear c20
      try clear c21
      try clear c22
      try clear c24
      try clear c25
      try clear c27
      try clear c27b0
      try clear c27b1
      try clear c28
      try clear c28b0
      try clear c29
      try clear c30
      try clear c32
      try clear c34
      try clear c35
      try clear c37
      try clear c39
      try clear hcz12_0
      try clear hcz12_1
      try clear hcz12_2
      try clear hcz12_3
      try clear hcz12_4
      try clear hcz21_0
      try clear hcz21_1
      try clear hcz21_2
      try clear hcz21_3
      try clear hcz21_4
      try clear hcz26_0
      try clear hcz26_1
      try clear hcz26_2
      try clear hcz26_3
      try clear hcz26_4
      try clear hcz31_0
      try clear hcz31_1
      try clear hcz31_2
      try clear hcz31_3
      try clear hcz31_4
      try clear hcz33_0
      try clear hcz33_1
      try clear hcz33_2
      try clear hcz33_3
      try clear hcz33_4
      try clear hcz36_0
      try clear hcz36_1
      try clear hcz36_2
      try clear hcz36_3
      try clear hcz36_4
      try clear hcz38_0
      try clear hcz38_1
      try clear hcz38_2
      try clear hcz38_3
      try clear hcz38_4
      try clear hfz12_0
      try clear hfz12_1
      try clear hfz12_2
      try clear hfz12_3
      try clear hfz12_4
      try clear hfz21_0
      try clear hfz21_1
      try clear hfz21_2
      try clear hfz21_3
      try clear hfz21_4
      try clear hfz26_0
      try clear hfz26_1
      try clear hfz26_2
      try clear hfz26_3
      try clear hfz26_4
      try clear hfz31_0
      try clear hfz31_1
      try clear hfz31_2
      try clear hfz31_3
      try clear hfz31_4
      try clear hfz33_0
      try clear hfz33_1
      try clear hfz33_2
      try clear hfz33_3
      try clear hfz33_4
      try clear hfz36_0
      try clear hfz36_1
      try clear hfz36_2
      try clear hfz36_3
      try clear hfz36_4
      try clear hfz38_0
      try clear hfz38_1
      try clear hfz38_2
      try clear hfz38_3
      try clear hfz38_4
      try clear p2
      obtain ⟨kq, HA, HJ9, BK321, HB⟩ := hcut
      cases kq with
      | zero => exact absurd HA.out (by simp [carousellaw05_RapsBack.j1])
      | succ kj9 =>
        have H := HA.out
        clear HA
        simp only [carousellaw05_RapsBack.j1] at H
        replace H := Option.bind_eq_some_iff.mp H
        obtain ⟨⟨t339, t340, t341, t342, t343, t344⟩, A400, H⟩ := H
        replace H : (if t344 = 0 then (carousellaw05_RapsBack.j2 kj9 a1 a3 t344 ((a3.size : Int) != 37) t339 t340 t341 t342 t343) else (carousellaw05_RapsBack.j2 kj9 a1 a3 t344 true t339 t340 t341 t342 t343)) = some r := H
        have A40 := Aside0.mk A400
        clear A400
        have HC41 := Aside0.mk H
        clear H
        go_upto_region 10 with (first | ((with_reducible refine gate_callee (f := 22) rfl ?_); refine goesL_ (some 60) rfl rfl Try.func22 (by kernel_rfl) rfl #[.string a3, .int .u8 a1] rfl (by (try simp only [List.map_toArray, List.map_cons, List.map_nil]); first | done | rfl | (simp only [List.length_drop, List.length_take]; rfl)) ?_; (with_reducible refine (raps_Open.calls kj9 a3 a1 t339 t340 t341 t342 t343 t344 _ A40.out).mono ?_); rintro e w42 ⟨rfl, hb⟩; refine ⟨_, rfl, ?_⟩; have n0_ := Aside0.mk (blk_below (g := gb321) (o := .cells #[.int .u8 a0_0, .bool a0_1, .bool a0_2, .bool a0_3, .int .u64 a0_4] 26 (0, 0)) (by (with_reducible repeat (first | refine blk_drewN ?_ _ | refine blk_drew ?_ | refine blk_alloc ?_ _)); exact BK321.out) hb); have n1_ := Aside0.mk (below_step (by repeat (first | (with_reducible first | exact HB.out | apply below_alloc | apply pw_below_drewN | apply below_drew1 | refine below_set ?_ GE321.out) | exact HB.out)) hb); clear BK321; clear HB; have BK321 := n0_; have HB := n1_; clear n0_ n1_; (try clear hb); (try clear hb2); (try clear hk); (try clear hi)) | ((with_reducible refine gate_dst (N := 15) rfl ?_); (try (refine gate_guard (by rfl) ?_; dsimp only)); refine box_event ?hg (N := 15) ?hd (cs := #[.int .u8 0, .bool false, .bool false, .bool false, .int .u64 0]) (t := 26) ?hr ?_; (case hd => rfl); (case hg => rfl); (case hr => first | (go_simp; done) | (go_simp; rfl)); intro gb345 hg w43 hbox hb; have n0_ := Aside0.mk (blk_below (g := gb321) (o := .cells #[.int .u8 a0_0, .bool a0_1, .bool a0_2, .bool a0_3, .int .u64 a0_4] 26 (0, 0)) (by (with_reducible repeat (first | refine blk_drewN ?_ _ | refine blk_drew ?_ | refine blk_alloc ?_ _)); exact BK321.out) hb); have n1_ := Aside0.mk (below_step (by repeat (first | (with_reducible first | exact HB.out | apply below_alloc | apply pw_below_drewN | apply below_drew1 | refine below_set ?_ GE321.out) | exact HB.out)) hb); have n2_ := Aside0.mk (hbox); have n3_ := Aside0.mk ((by rw [hg]; exact (below_size (by repeat (first | (with_reducible first | exact HB.out | apply below_alloc | apply pw_below_drewN | apply below_drew1 | refine below_set ?_ GE321.out) | exact HB.out))) : w.heap.size ≤ gb345)); have n4_ := Aside0.mk ((by rw [hg]; exact (below_size (by repeat (first | (with_reducible first | exact HB.out | apply below_alloc | apply pw_below_drewN | apply below_drew1 | refine below_set ?_ GE321.out) | exact HB.out))) : w.heap.size ≤ gb345)); have n5_ := Aside0.mk ((by rw [hg]; exact Nat.ne_of_lt (blk_lt (g := gb321) (o := .cells #[.int .u8 a0_0, .bool a0_1, .bool a0_2, .bool a0_3, .int .u64 a0_4] 26 (0, 0)) (by (with_reducible repeat (first | refine blk_drewN ?_ _ | refine blk_drew ?_ | refine blk_alloc ?_ _)); exact BK321.out)) : gb321 ≠ gb345)); have n6_ := Aside0.mk ((by rw [hg]; exact Nat.ne_of_gt (blk_lt (g := gb321) (o := .cells #[.int .u8 a0_0, .bool a0_1, .bool a0_2, .bool a0_3, .int .u64 a0_4] 26 (0, 0)) (by (with_reducible repeat (first | refine blk_drewN ?_ _ | refine blk_drew ?_ | refine blk_alloc ?_ _)); exact BK321.out)) : gb345 ≠ gb321)); clear BK321; clear HB; have BK321 := n0_; have HB := n1_; have BK345 := n2_; have GW345 := n3_; have GE345 := n4_; have NB321_345 := n5_; have NB345_321 := n6_; clear n0_ n1_ n2_ n3_ n4_ n5_ n6_; clear hb hbox hg; have hnb44 := NB345_321.out; have hnc44 := NB321_345.out; have hcz45_0 : w43.cell? ⟨gb345, 0, none⟩ = some (.int .u8 0) := (blk_cell BK345.out 0).trans rfl; have hcz45_1 : w43.cell? ⟨gb345, 1, none⟩ = some (.bool false) := (blk_cell BK345.out 1).trans rfl; have hcz45_2 : w43.cell? ⟨gb345, 2, none⟩ = some (.bool false) := (blk_cell BK345.out 2).trans rfl; have hcz45_3 : w43.cell? ⟨gb345, 3, none⟩ = some (.bool false) := (blk_cell BK345.out 3).trans rfl; have hcz45_4 : w43.cell? ⟨gb345, 4, none⟩ = some (.int .u64 0) := (blk_cell BK345.out 4).trans rfl; have hfz45_0 := blk_frozen BK345.out 0; have hfz45_1 := blk_frozen BK345.out 1; have hfz45_2 := blk_frozen BK345.out 2; have hfz45_3 := blk_frozen BK345.out 3; have hfz45_4 := blk_frozen BK345.out 4))
        (try simp only [Act.put, List.setIfInBounds_toArray, List.set_cons_zero, List.set_cons_succ])
        go_cut [69] (fun v69 wc => ∃ (kq : Nat) (x69_40 : Bool), v69 = .bool x69_40 ∧ Aside0 (carousellaw05_RapsBack.j2 kq a1 a3 t344 x69_40 t339 t340 t341 t342 t343 = some r) ∧ Aside0 (kq ≤ kj9) ∧ Aside0 (wc.heap[gb321]? = some (.cells #[.int .u8 a0_0, .bool a0_1, .bool a0_2, .bool a0_3, .int .u64 a0_4] 26 (0, 0))) ∧ Aside0 (wc.heap[gb345]? = some (.cells #[.int .u8 t339, .bool t340, .bool t341, .bool t342, .int .u64 t343] 26 (0, 0))) ∧ Aside0 (Below w.heap.size w wc))
        case first =>
          have H := HC41.out
          clear HC41
          by_cases c46 : t344 = 0
          · rw [if_pos c46] at H
            have c46b0 : (t344 == 0) = true := beq_iff_eq.mpr c46
            have c46b1 : (t344 != 0) = false := bne_eq_false_iff_eq.mpr c46
            clear c46
            (first | rw [c46b0] | (simp only [i64_w, i32_w]; rw [c46b0]) | skip)
            have H' := Aside0.mk H
            clear H
            go_wp2
            go_meet
            case rel => exact ⟨_, (((a3.size : Int) != 37)), (by first | rfl | (simp; done) | (simp [*]; done)), H', ⟨by have := HJ9.out; first | omega | exact Nat.le_refl _⟩, ⟨by (with_reducible repeat (first | refine blk_drewN ?_ _ | refine blk_drew ?_ | refine blk_alloc ?_ _)); refine blk_far ?_ NB321_345.out _; (with_reducible repeat (first | refine blk_drewN ?_ _ | refine blk_drew ?_ | refine blk_alloc ?_ _)); refine blk_far ?_ NB321_345.out _; (with_reducible repeat (first | refine blk_drewN ?_ _ | refine blk_drew ?_ | refine blk_alloc ?_ _)); refine blk_far ?_ NB321_345.out _; (with_reducible repeat (first | refine blk_drewN ?_ _ | refine blk_drew ?_ | refine blk_alloc ?_ _)); refine blk_far ?_ NB321_345.out _; (with_reducible repeat (first | refine blk_drewN ?_ _ | refine blk_drew ?_ | refine blk_alloc ?_ _)); refine blk_far ?_ NB321_345.out _; (with_reducible repeat (first | refine blk_drewN ?_ _ | refine blk_drew ?_ | refine blk_alloc ?_ _)); exact BK321.out⟩, ⟨by (with_reducible repeat (first | refine blk_drewN ?_ _ | refine blk_drew ?_ | refine blk_alloc ?_ _)); refine blk_put (cs := #[.int .u8 t339, .bool t340, .bool t341, .bool t342, .int .u64 0]) ?_ 4 _ rfl; (with_reducible repeat (first | refine blk_drewN ?_ _ | refine blk_drew ?_ | refine blk_alloc ?_ _)); refine blk_put (cs := #[.int .u8 t339, .bool t340, .bool t341, .bool false, .int .u64 0]) ?_ 3 _ rfl; (with_reducible repeat (first | refine blk_drewN ?_ _ | refine blk_drew ?_ | refine blk_alloc ?_ _)); refine blk_put (cs := #[.int .u8 t339, .bool t340, .bool false, .bool false, .int .u64 0]) ?_ 2 _ rfl; (with_reducible repeat (first | refine blk_drewN ?_ _ | refine blk_drew ?_ | refine blk_alloc ?_ _)); refine blk_put (cs := #[.int .u8 t339, .bool false, .bool false, .bool false, .int .u64 0]) ?_ 1 _ rfl; (with_reducible repeat (first | refine blk_drewN ?_ _ | refine blk_drew ?_ | refine blk_alloc ?_ _)); refine blk_put (cs := #[.int .u8 0, .bool false, .bool false, .bool false, .int .u64 0]) ?_ 0 _ rfl; (with_reducible repeat (first | refine blk_drewN ?_ _ | refine blk_drew ?_ | refine blk_alloc ?_ _)); exact BK345.out⟩, ⟨by repeat (first | (with_reducible first | exact HB.out | apply below_alloc | apply pw_below_drewN | apply below_drew1 | refine below_set ?_ GE321.out | refine below_set ?_ GE345.out) | exact HB.out)⟩⟩
          · rw [if_neg c46] at H
            have c46b0 : (t344 == 0) = false := beq_eq_false_iff_ne.mpr c46
            have c46b1 : (t344 != 0) = true := bne_iff_ne.mpr c46
            (first | rw [c46b0] | (simp only [i64_w, i32_w]; rw [c46b0]) | skip)
            have H' := Aside0.mk H
            clear H
            go_wp2
            go_meet
            case rel => exact ⟨_, (true), (by first | rfl | (simp; done) | (simp [*]; done)), H', ⟨by have := HJ9.out; first | omega | exact Nat.le_refl _⟩, ⟨by (with_reducible repeat (first | refine blk_drewN ?_ _ | refine blk_drew ?_ | refine blk_alloc ?_ _)); refine blk_far ?_ NB321_345.out _; (with_reducible repeat (first | refine blk_drewN ?_ _ | refine blk_drew ?_ | refine blk_alloc ?_ _)); refine blk_far ?_ NB321_345.out _; (with_reducible repeat (first | refine blk_drewN ?_ _ | refine blk_drew ?_ | refine blk_alloc ?_ _)); refine blk_far ?_ NB321_345.out _; (with_reducible repeat (first | refine blk_drewN ?_ _ | refine blk_drew ?_ | refine blk_alloc ?_ _)); refine blk_far ?_ NB321_345.out _; (with_reducible repeat (first | refine blk_drewN ?_ _ | refine blk_drew ?_ | refine blk_alloc ?_ _)); refine blk_far ?_ NB321_345.out _; (with_reducible repeat (first | refine blk_drewN ?_ _ | refine blk_drew ?_ | refine blk_alloc ?_ _)); exact BK321.out⟩, ⟨by (with_reducible repeat (first | refine blk_drewN ?_ _ | refine blk_drew ?_ | refine blk_alloc ?_ _)); refine blk_put (cs := #[.int .u8 t339, .bool t340, .bool t341, .bool t342, .int .u64 0]) ?_ 4 _ rfl; (with_reducible repeat (first | refine blk_drewN ?_ _ | refine blk_drew ?_ | refine blk_alloc ?_ _)); refine blk_put (cs := #[.int .u8 t339, .bool t340, .bool t341, .bool false, .int .u64 0]) ?_ 3 _ rfl; (with_reducible repeat (first | refine blk_drewN ?_ _ | refine blk_drew ?_ | refine blk_alloc ?_ _)); refine blk_put (cs := #[.int .u8 t339, .bool t340, .bool false, .bool false, .int .u64 0]) ?_ 2 _ rfl; (with_reducible repeat (first | refine blk_drewN ?_ _ | refine blk_drew ?_ | refine blk_alloc ?_ _)); refine blk_put (cs := #[.int .u8 t339, .bool false, .bool false, .bool false, .int .u64 0]) ?_ 1 _ rfl; (with_reducible repeat (first | refine blk_drewN ?_ _ | refine blk_drew ?_ | refine blk_alloc ?_ _)); refine blk_put (cs := #[.int .u8 0, .bool false, .bool false, .bool false, .int .u64 0]) ?_ 0 _ rfl; (with_reducible repeat (first | refine blk_drewN ?_ _ | refine blk_drew ?_ | refine blk_alloc ?_ _)); exact BK345.out⟩, ⟨by repeat (first | (with_reducible first | exact HB.out | apply below_alloc | apply pw_below_drewN | apply below_drew1 | refine below_set ?_ GE321.out | refine below_set ?_ GE345.out) | exact HB.out)⟩⟩
        case rest =>
          clear HC41
          try clear c1
          try clear c2
          try clear p2
          try clear c3
          try clear c4
          try clear c5
          try clear c5b0
          try clear c5b1
          try clear c6
          try clear c14
          try clear c14b0
          try clear c14b1
          try clear c20
          try clear c21
          try clear c22
          try clear c24
          try clear c25
          try clear c27
          try clear c27b0
          try clear c27b1
          try clear c28
          try clear c28b0
          try clear c29
          try clear c30
          try clear c32
          try clear c34
          try clear c35
          try clear c37
          try clear c39
          try clear c44
          try clear c46
          try clear c46b0
          try clear c46b1
          try clear hcz12_0
          try clear hcz12_1
          try clear hcz12_2
          try clear hcz12_3
          try clear hcz12_4
          try clear hcz21_0
          try clear hcz21_1
          try clear hcz21_2
          try clear hcz21_3
          try clear hcz21_4
          try clear hcz26_0
          try clear hcz26_1
          try clear hcz26_2
          try clear hcz26_3
          try clear hcz26_4
          try clear hcz31_0
          try clear hcz31_1
          try clear hcz31_2
          try clear hcz31_3
          try clear hcz31_4
          try clear hcz33_0
          try clear hcz33_1
          try clear hcz33_2
          try clear hcz33_3
          try clear hcz33_4
          try clear hcz36_0
          try clear hcz36_1
          try clear hcz36_2
          try clear hcz36_3
          try clear hcz36_4
          try clear hcz38_0
          try clear hcz38_1
          try clear hcz38_2
          try clear hcz38_3
          try clear hcz38_4
          try clear hcz45_0
          try clear hcz45_1
          try clear hcz45_2
          try clear hcz45_3
          try clear hcz45_4
          try clear hfz12_0
          try clear hfz12_1
          try clear hfz12_2
          try clear hfz12_3
          try clear hfz12_4
          try clear hfz21_0
          try clear hfz21_1
          try clear hfz21_2
          try clear hfz21_3
          try clear hfz21_4
          try clear hfz26_0
          try clear hfz26_1
          try clear hfz26_2
          try clear hfz26_3
          try clear hfz26_4
          try clear hfz31_0
          try clear hfz31_1
          try clear hfz31_2
          try clear hfz31_3
          try clear hfz31_4
          try clear hfz33_0
          try clear hfz33_1
          try clear hfz33_2
          try clear hfz33_3
          try clear hfz33_4
          try clear hfz36_0
          try clear hfz36_1
          try clear hfz36_2
          try clear hfz36_3
          try clear hfz36_4
          try clear hfz38_0
          try clear hfz38_1
          try clear hfz38_2
          try clear hfz38_3
          try clear hfz38_4
          try clear hfz45_0
          try clear hfz45_1
          try clear hfz45_2
          try clear hfz45_3
          try clear hfz45_4
          try clear p2
          obtain ⟨kq, x69_40, rfl, HA, HJ40, BK321, BK345, HB⟩ := hcut
          cases kq with
          | zero => exact absurd HA.out (by simp [carousellaw05_RapsBack.j2])
          | succ kj40 =>
            have H := HA.out
            clear HA
            simp only [carousellaw05_RapsBack.j2] at H
            by_cases c47 : x69_40 = true
            · subst c47
              have H1 : ((carousellaw05_Awake.f kj40).bind fun t346 => (if t346 = true then (if t344 = 0 then (some true) else (some (t339 == 0 && (!t340 && (!t341 && (!t342 && (t343 == 0))))))) else (some false))) = some r := by rw [if_pos rfl] at H; exact H
              clear H
              have H := H1
              clear H1
              replace H := Option.bind_eq_some_iff.mp H
              obtain ⟨t346, A480, H⟩ := H
              replace H : (if t346 = true then (if t344 = 0 then (some true) else (some (t339 == 0 && (!t340 && (!t341 && (!t342 && (t343 == 0))))))) else (some false)) = some r := H
              have A48 := Aside0.mk A480
              clear A480
              by_cases c49 : t346 = true
              · subst c49
                have H1 : (if t344 = 0 then (some true) else (some (t339 == 0 && (!t340 && (!t341 && (!t342 && (t343 == 0))))))) = some r := by rw [if_pos rfl] at H; exact H
                clear H
                have H := H1
                clear H1
                by_cases c50 : t344 = 0
                · rw [if_pos c50] at H
                  have c50b0 : (t344 == 0) = true := beq_iff_eq.mpr c50
                  have c50b1 : (t344 != 0) = false := bne_eq_false_iff_eq.mpr c50
                  clear c50
                  obtain rfl := Option.some.inj H
                  go_wp2_with (first | ((with_reducible refine gate_callee (f := 21) rfl ?_); refine goesL_ (some 70) rfl rfl Try.func21 (by kernel_rfl) rfl #[] rfl (by (try simp only [List.map_toArray, List.map_cons, List.map_nil]); first | done | rfl | (simp only [List.length_drop, List.length_take]; rfl)) ?_; (with_reducible refine (carousellaw05_Awake.calls kj40  true _ A48.out).mono ?_); rintro e w51 ⟨rfl, hb⟩; refine ⟨_, rfl, ?_⟩; have n0_ := Aside0.mk (blk_below (g := gb321) (o := .cells #[.int .u8 a0_0, .bool a0_1, .bool a0_2, .bool a0_3, .int .u64 a0_4] 26 (0, 0)) (by (with_reducible repeat (first | refine blk_drewN ?_ _ | refine blk_drew ?_ | refine blk_alloc ?_ _)); exact BK321.out) hb); have n1_ := Aside0.mk (blk_below (g := gb345) (o := .cells #[.int .u8 t339, .bool t340, .bool t341, .bool t342, .int .u64 t343] 26 (0, 0)) (by (with_reducible repeat (first | refine blk_drewN ?_ _ | refine blk_drew ?_ | refine blk_alloc ?_ _)); exact BK345.out) hb); have n2_ := Aside0.mk (below_step (by repeat (first | (with_reducible first | exact HB.out | apply below_alloc | apply pw_below_drewN | apply below_drew1 | refine below_set ?_ GE321.out | refine below_set ?_ GE345.out) | exact HB.out)) hb); clear BK321; clear BK345; clear HB; have BK321 := n0_; have BK345 := n1_; have HB := n2_; clear n0_ n1_ n2_; (try clear hb); (try clear hb2); (try clear hk); (try clear hi)))
                  go_ret
                  exact ⟨by first | rfl | (simp [errW_none, errW_some] <;> rfl) | (simp [*, errW_none, errW_some] <;> rfl), by repeat (first | (with_reducible first | exact HB.out | apply below_alloc | apply pw_below_drewN | apply below_drew1 | refine below_set ?_ GE321.out | refine below_set ?_ GE345.out) | exact HB.out)⟩
                · rw [if_neg c50] at H
                  have c50b0 : (t344 == 0) = false := beq_eq_false_iff_ne.mpr c50
                  have c50b1 : (t344 != 0) = true := bne_iff_ne.mpr c50
                  obtain rfl := Option.some.inj H
                  go_wp2_with (first | ((with_reducible refine gate_callee (f := 21) rfl ?_); refine goesL_ (some 70) rfl rfl Try.func21 (by kernel_rfl) rfl #[] rfl (by (try simp only [List.map_toArray, List.map_cons, List.map_nil]); first | done | rfl | (simp only [List.length_drop, List.length_take]; rfl)) ?_; (with_reducible refine (carousellaw05_Awake.calls kj40  true _ A48.out).mono ?_); rintro e w52 ⟨rfl, hb⟩; refine ⟨_, rfl, ?_⟩; have n0_ := Aside0.mk (blk_below (g := gb321) (o := .cells #[.int .u8 a0_0, .bool a0_1, .bool a0_2, .bool a0_3, .int .u64 a0_4] 26 (0, 0)) (by (with_reducible repeat (first | refine blk_drewN ?_ _ | refine blk_drew ?_ | refine blk_alloc ?_ _)); exact BK321.out) hb); have n1_ := Aside0.mk (blk_below (g := gb345) (o := .cells #[.int .u8 t339, .bool t340, .bool t341, .bool t342, .int .u64 t343] 26 (0, 0)) (by (with_reducible repeat (first | refine blk_drewN ?_ _ | refine blk_drew ?_ | refine blk_alloc ?_ _)); exact BK345.out) hb); have n2_ := Aside0.mk (below_step (by repeat (first | (with_reducible first | exact HB.out | apply below_alloc | apply pw_below_drewN | apply below_drew1 | refine below_set ?_ GE321.out | refine below_set ?_ GE345.out) | exact HB.out)) hb); clear BK321; clear BK345; clear HB; have BK321 := n0_; have BK345 := n1_; have HB := n2_; clear n0_ n1_ n2_; (try clear hb); (try clear hb2); (try clear hk); (try clear hi); have hnb53 := NB345_321.out; have hnc53 := NB321_345.out; have hcz54_0 : w52.cell? ⟨gb345, 0, none⟩ = some (.int .u8 t339) := (blk_cell BK345.out 0).trans rfl; have hcz54_1 : w52.cell? ⟨gb345, 1, none⟩ = some (.bool t340) := (blk_cell BK345.out 1).trans rfl; have hcz54_2 : w52.cell? ⟨gb345, 2, none⟩ = some (.bool t341) := (blk_cell BK345.out 2).trans rfl; have hcz54_3 : w52.cell? ⟨gb345, 3, none⟩ = some (.bool t342) := (blk_cell BK345.out 3).trans rfl; have hcz54_4 : w52.cell? ⟨gb345, 4, none⟩ = some (.int .u64 t343) := (blk_cell BK345.out 4).trans rfl; have hfz54_0 := blk_frozen BK345.out 0; have hfz54_1 := blk_frozen BK345.out 1; have hfz54_2 := blk_frozen BK345.out 2; have hfz54_3 := blk_frozen BK345.out 3; have hfz54_4 := blk_frozen BK345.out 4))
                  go_ret
                  exact ⟨by first | rfl | (simp [errW_none, errW_some] <;> rfl) | (simp [*, errW_none, errW_some] <;> rfl), by repeat (first | (with_reducible first | exact HB.out | apply below_alloc | apply pw_below_drewN | apply below_drew1 | refine below_set ?_ GE321.out | refine below_set ?_ GE345.out) | exact HB.out)⟩
              · replace c49 := Bool.eq_false_iff.mpr c49
                subst c49
                have H1 : (some false) = some r := by rw [if_neg (show ¬ (false = true) by decide)] at H; exact H
                clear H
                have H := H1
                clear H1
                obtain rfl := Option.some.inj H
                go_wp2_with (first | ((with_reducible refine gate_callee (f := 21) rfl ?_); refine goesL_ (some 70) rfl rfl Try.func21 (by kernel_rfl) rfl #[] rfl (by (try simp only [List.map_toArray, List.map_cons, List.map_nil]); first | done | rfl | (simp only [List.length_drop, List.length_take]; rfl)) ?_; (with_reducible refine (carousellaw05_Awake.calls kj40  false _ A48.out).mono ?_); rintro e w55 ⟨rfl, hb⟩; refine ⟨_, rfl, ?_⟩; have n0_ := Aside0.mk (blk_below (g := gb321) (o := .cells #[.int .u8 a0_0, .bool a0_1, .bool a0_2, .bool a0_3, .int .u64 a0_4] 26 (0, 0)) (by (with_reducible repeat (first | refine blk_drewN ?_ _ | refine blk_drew ?_ | refine blk_alloc ?_ _)); exact BK321.out) hb); have n1_ := Aside0.mk (blk_below (g := gb345) (o := .cells #[.int .u8 t339, .bool t340, .bool t341, .bool t342, .int .u64 t343] 26 (0, 0)) (by (with_reducible repeat (first | refine blk_drewN ?_ _ | refine blk_drew ?_ | refine blk_alloc ?_ _)); exact BK345.out) hb); have n2_ := Aside0.mk (below_step (by repeat (first | (with_reducible first | exact HB.out | apply below_alloc | apply pw_below_drewN | apply below_drew1 | refine below_set ?_ GE321.out | refine below_set ?_ GE345.out) | exact HB.out)) hb); clear BK321; clear BK345; clear HB; have BK321 := n0_; have BK345 := n1_; have HB := n2_; clear n0_ n1_ n2_; (try clear hb); (try clear hb2); (try clear hk); (try clear hi)))
                go_ret
                exact ⟨by first | rfl | (simp [errW_none, errW_some] <;> rfl) | (simp [*, errW_none, errW_some] <;> rfl), by repeat (first | (with_reducible first | exact HB.out | apply below_alloc | apply pw_below_drewN | apply below_drew1 | refine below_set ?_ GE321.out | refine below_set ?_ GE345.out) | exact HB.out)⟩
            · replace c47 := Bool.eq_false_iff.mpr c47
              subst c47
              have H1 : ((raps_Close.f kj40 t339 t340 t341 t342 t343 a1).bind fun bt347 => ((carousellaw05_Awake.f kj40).bind fun t349 => (if t349 = true then (if bt347.2 = 0 then (some (bt347.1.toList == a3.toList)) else (some false)) else (some false)))) = some r := by rw [if_neg (show ¬ (false = true) by decide)] at H; exact H
              clear H
              have H := H1
              clear H1
              replace H := Option.bind_eq_some_iff.mp H
              obtain ⟨⟨t347, t348⟩, A560, H⟩ := H
              replace H : ((carousellaw05_Awake.f kj40).bind fun t349 => (if t349 = true then (if t348 = 0 then (some (t347.toList == a3.toList)) else (some false)) else (some false))) = some r := H
              have A56 := Aside0.mk A560
              clear A560
              replace H := Option.bind_eq_some_iff.mp H
              obtain ⟨t349, A570, H⟩ := H
              replace H : (if t349 = true then (if t348 = 0 then (some (t347.toList == a3.toList)) else (some false)) else (some false)) = some r := H
              have A57 := Aside0.mk A570
              clear A570
              by_cases c58 : t349 = true
              · subst c58
                have H1 : (if t348 = 0 then (some (t347.toList == a3.toList)) else (some false)) = some r := by rw [if_pos rfl] at H; exact H
                clear H
                have H := H1
                clear H1
                by_cases c59 : t348 = 0
                · rw [if_pos c59] at H
                  have c59b0 : (t348 == 0) = true := beq_iff_eq.mpr c59
                  have c59b1 : (t348 != 0) = false := bne_eq_false_iff_eq.mpr c59
                  clear c59
                  obtain rfl := Option.some.inj H
                  have hnb60 := NB345_321.out
                  have hnc60 := NB321_345.out
                  have hcz61_0 : wc.cell? ⟨gb345, 0, none⟩ = some (.int .u8 t339) := (blk_cell BK345.out 0).trans rfl
                  have hcz61_1 : wc.cell? ⟨gb345, 1, none⟩ = some (.bool t340) := (blk_cell BK345.out 1).trans rfl
                  have hcz61_2 : wc.cell? ⟨gb345, 2, none⟩ = some (.bool t341) := (blk_cell BK345.out 2).trans rfl
                  have hcz61_3 : wc.cell? ⟨gb345, 3, none⟩ = some (.bool t342) := (blk_cell BK345.out 3).trans rfl
                  have hcz61_4 : wc.cell? ⟨gb345, 4, none⟩ = some (.int .u64 t343) := (blk_cell BK345.out 4).trans rfl
                  have hfz61_0 := blk_frozen BK345.out 0
                  have hfz61_1 := blk_frozen BK345.out 1
                  have hfz61_2 := blk_frozen BK345.out 2
                  have hfz61_3 := blk_frozen BK345.out 3
                  have hfz61_4 := blk_frozen BK345.out 4
                  go_wp2_with (first | ((with_reducible refine gate_callee (f := 24) rfl ?_); refine goesL_ (some 83) rfl rfl Try.func24 (by kernel_rfl) rfl #[.agg #[.int .u8 t339, .bool t340, .bool t341, .bool t342, .int .u64 t343], .int .u8 a1] rfl (by (try simp only [List.map_toArray, List.map_cons, List.map_nil]); first | done | rfl | (simp only [List.length_drop, List.length_take]; rfl)) ?_; (with_reducible refine (raps_Close.calls kj40 t339 t340 t341 t342 t343 a1 t347 t348 _ A56.out).mono ?_); rintro e w62 ⟨rfl, hb⟩; refine ⟨_, rfl, ?_⟩; have n0_ := Aside0.mk (blk_below (g := gb321) (o := .cells #[.int .u8 a0_0, .bool a0_1, .bool a0_2, .bool a0_3, .int .u64 a0_4] 26 (0, 0)) (by (with_reducible repeat (first | refine blk_drewN ?_ _ | refine blk_drew ?_ | refine blk_alloc ?_ _)); exact BK321.out) hb); have n1_ := Aside0.mk (blk_below (g := gb345) (o := .cells #[.int .u8 t339, .bool t340, .bool t341, .bool t342, .int .u64 t343] 26 (0, 0)) (by (with_reducible repeat (first | refine blk_drewN ?_ _ | refine blk_drew ?_ | refine blk_alloc ?_ _)); exact BK345.out) hb); have n2_ := Aside0.mk (below_step (by repeat (first | (with_reducible first | exact HB.out | apply below_alloc | apply pw_below_drewN | apply below_drew1 | refine below_set ?_ GE321.out | refine below_set ?_ GE345.out) | exact HB.out)) hb); clear BK321; clear BK345; clear HB; have BK321 := n0_; have BK345 := n1_; have HB := n2_; clear n0_ n1_ n2_; (try clear hb); (try clear hb2); (try clear hk); (try clear hi)) | ((with_reducible refine gate_callee (f := 21) rfl ?_); refine goesL_ (some 86) rfl rfl Try.func21 (by kernel_rfl) rfl #[] rfl (by (try simp only [List.map_toArray, List.map_cons, List.map_nil]); first | done | rfl | (simp only [List.length_drop, List.length_take]; rfl)) ?_; (with_reducible refine (carousellaw05_Awake.calls kj40  true _ A57.out).mono ?_); rintro e w63 ⟨rfl, hb⟩; refine ⟨_, rfl, ?_⟩; have n0_ := Aside0.mk (blk_below (g := gb321) (o := .cells #[.int .u8 a0_0, .bool a0_1, .bool a0_2, .bool a0_3, .int .u64 a0_4] 26 (0, 0)) (by (with_reducible repeat (first | refine blk_drewN ?_ _ | refine blk_drew ?_ | refine blk_alloc ?_ _)); exact BK321.out) hb); have n1_ := Aside0.mk (blk_below (g := gb345) (o := .cells #[.int .u8 t339, .bool t340, .bool t341, .bool t342, .int .u64 t343] 26 (0, 0)) (by (with_reducible repeat (first | refine blk_drewN ?_ _ | refine blk_drew ?_ | refine blk_alloc ?_ _)); exact BK345.out) hb); have n2_ := Aside0.mk (below_step (by repeat (first | (with_reducible first | exact HB.out | apply below_alloc | apply pw_below_drewN | apply below_drew1 | refine below_set ?_ GE321.out | refine below_set ?_ GE345.out) | exact HB.out)) hb); clear BK321; clear BK345; clear HB; have BK321 := n0_; have BK345 := n1_; have HB := n2_; clear n0_ n1_ n2_; (try clear hb); (try clear hb2); (try clear hk); (try clear hi)))
                  go_ret
                  exact ⟨by first | rfl | (simp [errW_none, errW_some] <;> rfl) | (simp [*, errW_none, errW_some] <;> rfl), by repeat (first | (with_reducible first | exact HB.out | apply below_alloc | apply pw_below_drewN | apply below_drew1 | refine below_set ?_ GE321.out | refine below_set ?_ GE345.out) | exact HB.out)⟩
                · rw [if_neg c59] at H
                  have c59b0 : (t348 == 0) = false := beq_eq_false_iff_ne.mpr c59
                  have c59b1 : (t348 != 0) = true := bne_iff_ne.mpr c59
                  obtain rfl := Option.some.inj H
                  have hnb64 := NB345_321.out
                  have hnc64 := NB321_345.out
                  have hcz65_0 : wc.cell? ⟨gb345, 0, none⟩ = some (.int .u8 t339) := (blk_cell BK345.out 0).trans rfl
                  have hcz65_1 : wc.cell? ⟨gb345, 1, none⟩ = some (.bool t340) := (blk_cell BK345.out 1).trans rfl
                  have hcz65_2 : wc.cell? ⟨gb345, 2, none⟩ = some (.bool t341) := (blk_cell BK345.out 2).trans rfl
                  have hcz65_3 : wc.cell? ⟨gb345, 3, none⟩ = some (.bool t342) := (blk_cell BK345.out 3).trans rfl
                  have hcz65_4 : wc.cell? ⟨gb345, 4, none⟩ = some (.int .u64 t343) := (blk_cell BK345.out 4).trans rfl
                  have hfz65_0 := blk_frozen BK345.out 0
                  have hfz65_1 := blk_frozen BK345.out 1
                  have hfz65_2 := blk_frozen BK345.out 2
                  have hfz65_3 := blk_frozen BK345.out 3
                  have hfz65_4 := blk_frozen BK345.out 4
                  go_wp2_with (first | ((with_reducible refine gate_callee (f := 24) rfl ?_); refine goesL_ (some 83) rfl rfl Try.func24 (by kernel_rfl) rfl #[.agg #[.int .u8 t339, .bool t340, .bool t341, .bool t342, .int .u64 t343], .int .u8 a1] rfl (by (try simp only [List.map_toArray, List.map_cons, List.map_nil]); first | done | rfl | (simp only [List.length_drop, List.length_take]; rfl)) ?_; (with_reducible refine (raps_Close.calls kj40 t339 t340 t341 t342 t343 a1 t347 t348 _ A56.out).mono ?_); rintro e w66 ⟨rfl, hb⟩; refine ⟨_, rfl, ?_⟩; have n0_ := Aside0.mk (blk_below (g := gb321) (o := .cells #[.int .u8 a0_0, .bool a0_1, .bool a0_2, .bool a0_3, .int .u64 a0_4] 26 (0, 0)) (by (with_reducible repeat (first | refine blk_drewN ?_ _ | refine blk_drew ?_ | refine blk_alloc ?_ _)); exact BK321.out) hb); have n1_ := Aside0.mk (blk_below (g := gb345) (o := .cells #[.int .u8 t339, .bool t340, .bool t341, .bool t342, .int .u64 t343] 26 (0, 0)) (by (with_reducible repeat (first | refine blk_drewN ?_ _ | refine blk_drew ?_ | refine blk_alloc ?_ _)); exact BK345.out) hb); have n2_ := Aside0.mk (below_step (by repeat (first | (with_reducible first | exact HB.out | apply below_alloc | apply pw_below_drewN | apply below_drew1 | refine below_set ?_ GE321.out | refine below_set ?_ GE345.out) | exact HB.out)) hb); clear BK321; clear BK345; clear HB; have BK321 := n0_; have BK345 := n1_; have HB := n2_; clear n0_ n1_ n2_; (try clear hb); (try clear hb2); (try clear hk); (try clear hi)) | ((with_reducible refine gate_callee (f := 21) rfl ?_); refine goesL_ (some 86) rfl rfl Try.func21 (by kernel_rfl) rfl #[] rfl (by (try simp only [List.map_toArray, List.map_cons, List.map_nil]); first | done | rfl | (simp only [List.length_drop, List.length_take]; rfl)) ?_; (with_reducible refine (carousellaw05_Awake.calls kj40  true _ A57.out).mono ?_); rintro e w67 ⟨rfl, hb⟩; refine ⟨_, rfl, ?_⟩; have n0_ := Aside0.mk (blk_below (g := gb321) (o := .cells #[.int .u8 a0_0, .bool a0_1, .bool a0_2, .bool a0_3, .int .u64 a0_4] 26 (0, 0)) (by (with_reducible repeat (first | refine blk_drewN ?_ _ | refine blk_drew ?_ | refine blk_alloc ?_ _)); exact BK321.out) hb); have n1_ := Aside0.mk (blk_below (g := gb345) (o := .cells #[.int .u8 t339, .bool t340, .bool t341, .bool t342, .int .u64 t343] 26 (0, 0)) (by (with_reducible repeat (first | refine blk_drewN ?_ _ | refine blk_drew ?_ | refine blk_alloc ?_ _)); exact BK345.out) hb); have n2_ := Aside0.mk (below_step (by repeat (first | (with_reducible first | exact HB.out | apply below_alloc | apply pw_below_drewN | apply below_drew1 | refine below_set ?_ GE321.out | refine below_set ?_ GE345.out) | exact HB.out)) hb); clear BK321; clear BK345; clear HB; have BK321 := n0_; have BK345 := n1_; have HB := n2_; clear n0_ n1_ n2_; (try clear hb); (try clear hb2); (try clear hk); (try clear hi)))
                  go_ret
                  exact ⟨by first | rfl | (simp [errW_none, errW_some] <;> rfl) | (simp [*, errW_none, errW_some] <;> rfl), by repeat (first | (with_reducible first | exact HB.out | apply below_alloc | apply pw_below_drewN | apply below_drew1 | refine below_set ?_ GE321.out | refine below_set ?_ GE345.out) | exact HB.out)⟩
              · replace c58 := Bool.eq_false_iff.mpr c58
                subst c58
                have H1 : (some false) = some r := by rw [if_neg (show ¬ (false = true) by decide)] at H; exact H
                clear H
                have H := H1
                clear H1
                obtain rfl := Option.some.inj H
                have hnb68 := NB345_321.out
                have hnc68 := NB321_345.out
                have hcz69_0 : wc.cell? ⟨gb345, 0, none⟩ = some (.int .u8 t339) := (blk_cell BK345.out 0).trans rfl
                have hcz69_1 : wc.cell? ⟨gb345, 1, none⟩ = some (.bool t340) := (blk_cell BK345.out 1).trans rfl
                have hcz69_2 : wc.cell? ⟨gb345, 2, none⟩ = some (.bool t341) := (blk_cell BK345.out 2).trans rfl
                have hcz69_3 : wc.cell? ⟨gb345, 3, none⟩ = some (.bool t342) := (blk_cell BK345.out 3).trans rfl
                have hcz69_4 : wc.cell? ⟨gb345, 4, none⟩ = some (.int .u64 t343) := (blk_cell BK345.out 4).trans rfl
                have hfz69_0 := blk_frozen BK345.out 0
                have hfz69_1 := blk_frozen BK345.out 1
                have hfz69_2 := blk_frozen BK345.out 2
                have hfz69_3 := blk_frozen BK345.out 3
                have hfz69_4 := blk_frozen BK345.out 4
                go_wp2_with (first | ((with_reducible refine gate_callee (f := 24) rfl ?_); refine goesL_ (some 83) rfl rfl Try.func24 (by kernel_rfl) rfl #[.agg #[.int .u8 t339, .bool t340, .bool t341, .bool t342, .int .u64 t343], .int .u8 a1] rfl (by (try simp only [List.map_toArray, List.map_cons, List.map_nil]); first | done | rfl | (simp only [List.length_drop, List.length_take]; rfl)) ?_; (with_reducible refine (raps_Close.calls kj40 t339 t340 t341 t342 t343 a1 t347 t348 _ A56.out).mono ?_); rintro e w70 ⟨rfl, hb⟩; refine ⟨_, rfl, ?_⟩; have n0_ := Aside0.mk (blk_below (g := gb321) (o := .cells #[.int .u8 a0_0, .bool a0_1, .bool a0_2, .bool a0_3, .int .u64 a0_4] 26 (0, 0)) (by (with_reducible repeat (first | refine blk_drewN ?_ _ | refine blk_drew ?_ | refine blk_alloc ?_ _)); exact BK321.out) hb); have n1_ := Aside0.mk (blk_below (g := gb345) (o := .cells #[.int .u8 t339, .bool t340, .bool t341, .bool t342, .int .u64 t343] 26 (0, 0)) (by (with_reducible repeat (first | refine blk_drewN ?_ _ | refine blk_drew ?_ | refine blk_alloc ?_ _)); exact BK345.out) hb); have n2_ := Aside0.mk (below_step (by repeat (first | (with_reducible first | exact HB.out | apply below_alloc | apply pw_below_drewN | apply below_drew1 | refine below_set ?_ GE321.out | refine below_set ?_ GE345.out) | exact HB.out)) hb); clear BK321; clear BK345; clear HB; have BK321 := n0_; have BK345 := n1_; have HB := n2_; clear n0_ n1_ n2_; (try clear hb); (try clear hb2); (try clear hk); (try clear hi)) | ((with_reducible refine gate_callee (f := 21) rfl ?_); refine goesL_ (some 86) rfl rfl Try.func21 (by kernel_rfl) rfl #[] rfl (by (try simp only [List.map_toArray, List.map_cons, List.map_nil]); first | done | rfl | (simp only [List.length_drop, List.length_take]; rfl)) ?_; (with_reducible refine (carousellaw05_Awake.calls kj40  false _ A57.out).mono ?_); rintro e w71 ⟨rfl, hb⟩; refine ⟨_, rfl, ?_⟩; have n0_ := Aside0.mk (blk_below (g := gb321) (o := .cells #[.int .u8 a0_0, .bool a0_1, .bool a0_2, .bool a0_3, .int .u64 a0_4] 26 (0, 0)) (by (with_reducible repeat (first | refine blk_drewN ?_ _ | refine blk_drew ?_ | refine blk_alloc ?_ _)); exact BK321.out) hb); have n1_ := Aside0.mk (blk_below (g := gb345) (o := .cells #[.int .u8 t339, .bool t340, .bool t341, .bool t342, .int .u64 t343] 26 (0, 0)) (by (with_reducible repeat (first | refine blk_drewN ?_ _ | refine blk_drew ?_ | refine blk_alloc ?_ _)); exact BK345.out) hb); have n2_ := Aside0.mk (below_step (by repeat (first | (with_reducible first | exact HB.out | apply below_alloc | apply pw_below_drewN | apply below_drew1 | refine below_set ?_ GE321.out | refine below_set ?_ GE345.out) | exact HB.out)) hb); clear BK321; clear BK345; clear HB; have BK321 := n0_; have BK345 := n1_; have HB := n2_; clear n0_ n1_ n2_; (try clear hb); (try clear hb2); (try clear hk); (try clear hi)))
                go_ret
                exact ⟨by first | rfl | (simp [errW_none, errW_some] <;> rfl) | (simp [*, errW_none, errW_some] <;> rfl), by repeat (first | (with_reducible first | exact HB.out | apply below_alloc | apply pw_below_drewN | apply below_drew1 | refine below_set ?_ GE321.out | refine below_set ?_ GE345.out) | exact HB.out)⟩

/-- THE ONE PURE STATEMENT of carousellaw05_RapsBack: yours. -/
def carousellaw05_RapsBack.Pure : Prop := ∀ (a0_0 : Int) (a0_1 : Bool) (a0_2 : Bool) (a0_3 : Bool) (a0_4 : Int) (a1 : Int) (a2 : Int) (a3 : ByteArray), (Lit.int .u8 a0_0).wf = true → (Lit.int .u64 a0_4).wf = true → (Lit.int .u8 a1).wf = true → (Lit.int .u8 a2).wf = true → a3.size ≤ 140737488351232 → ∃ k, carousellaw05_RapsBack.f k a0_0 a0_1 a0_2 a0_3 a0_4 a1 a2 a3 = some true
theorem carousellaw05_RapsBack.walk (P : carousellaw05_RapsBack.Pure) (a0_0 : Int) (a0_1 : Bool) (a0_2 : Bool) (a0_3 : Bool) (a0_4 : Int) (a1 : Int) (a2 : Int) (a3 : ByteArray) (w : World) (w0_0 : (Lit.int .u8 a0_0).wf = true) (w0_1 : (Lit.int .u64 a0_4).wf = true) (w1_0 : (Lit.int .u8 a1).wf = true) (w2_0 : (Lit.int .u8 a2).wf = true) (w3_0 : a3.size ≤ 140737488351232) :
    Calls Try.prog 6 #[.agg #[.int .u8 a0_0, .bool a0_1, .bool a0_2, .bool a0_3, .int .u64 a0_4], .int .u8 a1, .int .u8 a2, .string a3] w fun e w' => e = .returned (.bool true) ∧ Below w.heap.size w w' := by
  obtain ⟨k, h⟩ := P a0_0 a0_1 a0_2 a0_3 a0_4 a1 a2 a3 w0_0 w0_1 w1_0 w2_0 w3_0
  refine (carousellaw05_RapsBack.calls k a0_0 a0_1 a0_2 a0_3 a0_4 a1 a2 a3 true w h).mono ?_
  rintro e w' ⟨rfl, hd⟩
  exact ⟨rfl, hd⟩

end Go.Proofs.Ytmdaaphjndjakaf.PAll
