-- Written by a program of this work, after the translation.
import Derived.Test.YtmdaaphjndjakaePAllx0
import Derived.Test.YtmdaaphjndjakaePAllx1
import Derived.Test.YtmdaaphjndjakaePAllx6
import Derived.Test.YtmdaaphjndjakaePAllx8
import Derived.Test.YtmdaaphjndjakaePAllx11
namespace Go.Proofs.Ytmdaaphjndjakae.PAll
open Go.RowKit Go.Proofs.YtmdaaphjndjakaeW.PrintWords Go.Proofs.YtmdaaphjndjakaeW.PrintLast Go.Proofs.YtmdaaphjndjakaeW.PrintMore
attribute [local go_sem] max2_int min2_int max_two min_two max_three min_three max_four min_four   -- for this text's walks alone
set_option linter.unusedVariables false
set_option linter.unusedSimpArgs false

attribute [local go_sem high] eqA27
/-! ### carousellaw03_TaggedBack: function 4 -/
mutual
def carousellaw03_TaggedBack.j0 : Nat → ByteArray → Bool → Int → Int → Int → Bool → Int → Int → ByteArray → Option (Bool)
  | 0, _, _, _, _, _, _, _, _, _ => none
  | k + 1, x1, x20, x227000, x227001, x227002, x227003, x227004, x227005, x227006 => if x20 = true then ((carousellaw03_Awake.f k).bind fun t227 => (some t227)) else ((tagged_Close.f k x227000 x227001 x227002 x227003 x227004 x227005 x227006).bind fun bt228 => (if bt228.2 = 0 then ((tagged_Open.f k bt228.1).bind fun bt230 => (if bt230.2.2.2.2.2.2.2 = 0 then (if (!(bt230.1 == x227000) || (!(bt230.2.1 == x227001) || (!(bt230.2.2.1 == x227002) || (!(bt230.2.2.2.1 == x227003) || (!(bt230.2.2.2.2.1 == x227004) || (!(bt230.2.2.2.2.2.1 == x227005) || (!(bt230.2.2.2.2.2.2.1.toList == x227006.toList)))))))) = true then (some false) else (carousellaw03_TaggedBack.j1 k x1)) else (some false))) else (carousellaw03_TaggedBack.j1 k x1)))
def carousellaw03_TaggedBack.j1 : Nat → ByteArray → Option (Bool)
  | 0, _ => none
  | k + 1, x1 => (tagged_Open.f k x1).bind fun bt239 => (if bt239.2.2.2.2.2.2.2 = 0 then ((tagged_Close.f k bt239.1 bt239.2.1 bt239.2.2.1 bt239.2.2.2.1 bt239.2.2.2.2.1 bt239.2.2.2.2.2.1 bt239.2.2.2.2.2.2.1).bind fun bt249 => ((carousellaw03_Awake.f k).bind fun t251 => (if t251 = true then (if bt249.2 = 0 then (some (bt249.1.toList == x1.toList)) else (some false)) else (some false)))) else ((carousellaw03_Awake.f k).bind fun t248 => (if t248 = true then (some (bt239.1 == 0 && (bt239.2.1 == 0 && (bt239.2.2.1 == 0 && (!bt239.2.2.2.1 && (bt239.2.2.2.2.1 == 0 && (bt239.2.2.2.2.2.1 == 0 && (bt239.2.2.2.2.2.2.1.toList == ([] : List UInt8))))))))) else (some false))))
end
def carousellaw03_TaggedBack.f (k : Nat) (a0_0 : Int) (a0_1 : Int) (a0_2 : Int) (a0_3 : Bool) (a0_4 : Int) (a0_5 : Int) (a0_6 : ByteArray) (a1 : ByteArray) : Option (Bool) := if (a0_6.size : Int) > 2000 then (carousellaw03_TaggedBack.j0 k a1 true a0_0 a0_1 a0_2 a0_3 a0_4 a0_5 a0_6) else (carousellaw03_TaggedBack.j0 k a1 (decide ((a1.size : Int) > 2000)) a0_0 a0_1 a0_2 a0_3 a0_4 a0_5 a0_6)
theorem carousellaw03_TaggedBack.mono_l : ∀ k, (∀ y0 y1 y2 y3 y4 y5 y6 y7 y8, LeO (carousellaw03_TaggedBack.j0 k y0 y1 y2 y3 y4 y5 y6 y7 y8) (carousellaw03_TaggedBack.j0 (k + 1) y0 y1 y2 y3 y4 y5 y6 y7 y8)) ∧ (∀ y0, LeO (carousellaw03_TaggedBack.j1 k y0) (carousellaw03_TaggedBack.j1 (k + 1) y0))
  | 0 => ⟨fun _ _ _ _ _ _ _ _ _ r h => by simp [carousellaw03_TaggedBack.j0] at h, fun _ r h => by simp [carousellaw03_TaggedBack.j1] at h⟩
  | k + 1 => by
    obtain ⟨ih0, ih1⟩ := carousellaw03_TaggedBack.mono_l k
    refine ⟨?_, ?_⟩
    · intro y0 y1 y2 y3 y4 y5 y6 y7 y8
      unfold carousellaw03_TaggedBack.j0
      repeat' first
      | (with_reducible exact ih0 _ _ _ _ _ _ _ _ _)
      | (with_reducible exact ih1 _)
      | (with_reducible exact carousellaw03_Awake.mono _)
      | (with_reducible exact tagged_Close.mono _ _ _ _ _ _ _ _)
      | (with_reducible exact tagged_Open.mono _ _)
      | (with_reducible exact LeO.refl _)
      | (with_reducible exact LeO.none _)
      | (with_reducible refine LeO.ite ?_ ?_)
      | (with_reducible refine LeO.bind ?_ (fun _ => ?_))
      | exact ih0 _ _ _ _ _ _ _ _ _
      | exact ih1 _
      | exact carousellaw03_Awake.mono _
      | exact tagged_Close.mono _ _ _ _ _ _ _ _
      | exact tagged_Open.mono _ _
      | exact LeO.none _
      | refine LeO.ite ?_ ?_
      | refine LeO.bind ?_ (fun _ => ?_)
    · intro y0
      unfold carousellaw03_TaggedBack.j1
      repeat' first
      | (with_reducible exact ih0 _ _ _ _ _ _ _ _ _)
      | (with_reducible exact ih1 _)
      | (with_reducible exact carousellaw03_Awake.mono _)
      | (with_reducible exact tagged_Close.mono _ _ _ _ _ _ _ _)
      | (with_reducible exact tagged_Open.mono _ _)
      | (with_reducible exact LeO.refl _)
      | (with_reducible exact LeO.none _)
      | (with_reducible refine LeO.ite ?_ ?_)
      | (with_reducible refine LeO.bind ?_ (fun _ => ?_))
      | exact ih0 _ _ _ _ _ _ _ _ _
      | exact ih1 _
      | exact carousellaw03_Awake.mono _
      | exact tagged_Close.mono _ _ _ _ _ _ _ _
      | exact tagged_Open.mono _ _
      | exact LeO.none _
      | refine LeO.ite ?_ ?_
      | refine LeO.bind ?_ (fun _ => ?_)
theorem carousellaw03_TaggedBack.mono : ∀ a0 a1 a2 a3 a4 a5 a6 a7 k, LeO (carousellaw03_TaggedBack.f k a0 a1 a2 a3 a4 a5 a6 a7) (carousellaw03_TaggedBack.f (k + 1) a0 a1 a2 a3 a4 a5 a6 a7) := by
  intro a0 a1 a2 a3 a4 a5 a6 a7 k
  obtain ⟨ih0, ih1⟩ := carousellaw03_TaggedBack.mono_l k
  unfold carousellaw03_TaggedBack.f
  repeat' first
      | (with_reducible exact ih0 _ _ _ _ _ _ _ _ _)
      | (with_reducible exact ih1 _)
      | (with_reducible exact carousellaw03_Awake.mono _)
      | (with_reducible exact tagged_Close.mono _ _ _ _ _ _ _ _)
      | (with_reducible exact tagged_Open.mono _ _)
      | (with_reducible exact LeO.refl _)
      | (with_reducible exact LeO.none _)
      | (with_reducible refine LeO.ite ?_ ?_)
      | (with_reducible refine LeO.bind ?_ (fun _ => ?_))
      | exact ih0 _ _ _ _ _ _ _ _ _
      | exact ih1 _
      | exact carousellaw03_Awake.mono _
      | exact tagged_Close.mono _ _ _ _ _ _ _ _
      | exact tagged_Open.mono _ _
      | exact LeO.none _
      | refine LeO.ite ?_ ?_
      | refine LeO.bind ?_ (fun _ => ?_)
set_option maxHeartbeats 8000000 in
set_option maxRecDepth 100000 in
theorem carousellaw03_TaggedBack.calls (k : Nat) (a0_0 : Int) (a0_1 : Int) (a0_2 : Int) (a0_3 : Bool) (a0_4 : Int) (a0_5 : Int) (a0_6 : ByteArray) (a1 : ByteArray) (r : Bool) (w : World) (h : carousellaw03_TaggedBack.f k a0_0 a0_1 a0_2 a0_3 a0_4 a0_5 a0_6 a1 = some r) :
    Calls Try.prog 4 #[.agg #[.int .u64 a0_0, .int .u64 a0_1, .int .u8 a0_2, .bool a0_3, .int .u16 a0_4, .int .u16 a0_5, .string a0_6], .string a1] w fun e w' => e = .returned (.bool r) ∧ Below w.heap.size w w' := by
  have hu27 := Try.underlying27
  have HB := Aside0.mk (Below.refl w.heap.size w)
  have H : (if (a0_6.size : Int) > 2000 then (carousellaw03_TaggedBack.j0 k a1 true a0_0 a0_1 a0_2 a0_3 a0_4 a0_5 a0_6) else (carousellaw03_TaggedBack.j0 k a1 (decide ((a1.size : Int) > 2000)) a0_0 a0_1 a0_2 a0_3 a0_4 a0_5 a0_6)) = some r := h
  clear h
  have HC3 := Aside0.mk H
  clear H
  go_enter Try.func4, Try.ntmps4
  go_upto_region 1 with (first | ((with_reducible refine gate_dst (N := 2) rfl ?_); (try (refine gate_guard (by rfl) ?_; dsimp only)); refine box_event ?hg (N := 2) ?hd (cs := #[.int .u64 a0_0, .int .u64 a0_1, .int .u8 a0_2, .bool a0_3, .int .u16 a0_4, .int .u16 a0_5, .string a0_6]) (t := 27) ?hr ?_; (case hd => rfl); (case hg => rfl); (case hr => first | (go_simp; done) | (go_simp; rfl)); intro gb226 hg w4 hbox hb; have n0_ := Aside0.mk (below_step (by repeat (first | (with_reducible first | exact HB.out | apply below_alloc | apply pw_below_drewN | apply below_drew1) | exact HB.out)) hb); have n1_ := Aside0.mk (hbox); have n2_ := Aside0.mk ((by rw [hg]; exact (below_size (by repeat (first | (with_reducible first | exact HB.out | apply below_alloc | apply pw_below_drewN | apply below_drew1) | exact HB.out))) : w.heap.size ≤ gb226)); have n3_ := Aside0.mk ((by rw [hg]; exact (below_size (by repeat (first | (with_reducible first | exact HB.out | apply below_alloc | apply pw_below_drewN | apply below_drew1) | exact HB.out))) : w.heap.size ≤ gb226)); clear HB; have HB := n0_; have BK226 := n1_; have GW226 := n2_; have GE226 := n3_; clear n0_ n1_ n2_ n3_; clear hb hbox hg))
  (try simp only [Act.put, List.setIfInBounds_toArray, List.set_cons_zero, List.set_cons_succ])
  go_cut [20] (fun v20 wc => ∃ (kq : Nat) (x20_2 : Bool), v20 = .bool x20_2 ∧ Aside0 (carousellaw03_TaggedBack.j0 kq a1 x20_2 a0_0 a0_1 a0_2 a0_3 a0_4 a0_5 a0_6 = some r) ∧ Aside0 (kq ≤ k) ∧ Aside0 (wc.heap[gb226]? = some (.cells #[.int .u64 a0_0, .int .u64 a0_1, .int .u8 a0_2, .bool a0_3, .int .u16 a0_4, .int .u16 a0_5, .string a0_6] 27 (0, 0))) ∧ Aside0 (Below w.heap.size w wc))
  case first =>
    have H := HC3.out
    clear HC3
    by_cases c5 : (a0_6.size : Int) > 2000
    · rw [if_pos c5] at H
      have c5b0 : decide (2000 < (a0_6.size : Int)) = true := decide_eq_true c5
      have c5b1 : decide (2000 < a0_6.size) = true := decide_eq_true (by omega)
      clear c5
      (first | rw [c5b0] | (simp only [i64_w, i32_w]; rw [c5b0]) | skip)
      have H' := Aside0.mk H
      clear H
      have hcz6_0 : w4.cell? ⟨gb226, 0, none⟩ = some (.int .u64 a0_0) := (blk_cell BK226.out 0).trans rfl
      have hcz6_1 : w4.cell? ⟨gb226, 1, none⟩ = some (.int .u64 a0_1) := (blk_cell BK226.out 1).trans rfl
      have hcz6_2 : w4.cell? ⟨gb226, 2, none⟩ = some (.int .u8 a0_2) := (blk_cell BK226.out 2).trans rfl
      have hcz6_3 : w4.cell? ⟨gb226, 3, none⟩ = some (.bool a0_3) := (blk_cell BK226.out 3).trans rfl
      have hcz6_4 : w4.cell? ⟨gb226, 4, none⟩ = some (.int .u16 a0_4) := (blk_cell BK226.out 4).trans rfl
      have hcz6_5 : w4.cell? ⟨gb226, 5, none⟩ = some (.int .u16 a0_5) := (blk_cell BK226.out 5).trans rfl
      have hcz6_6 : w4.cell? ⟨gb226, 6, none⟩ = some (.string a0_6) := (blk_cell BK226.out 6).trans rfl
      have hfz6_0 := blk_frozen BK226.out 0
      have hfz6_1 := blk_frozen BK226.out 1
      have hfz6_2 := blk_frozen BK226.out 2
      have hfz6_3 := blk_frozen BK226.out 3
      have hfz6_4 := blk_frozen BK226.out 4
      have hfz6_5 := blk_frozen BK226.out 5
      have hfz6_6 := blk_frozen BK226.out 6
      go_wp2
      go_meet
      case rel => exact ⟨_, (true), (by first | rfl | (simp; done) | (simp [*]; done)), H', ⟨by first | omega | exact Nat.le_refl _⟩, ⟨by (with_reducible repeat (first | refine blk_drewN ?_ _ | refine blk_drew ?_ | refine blk_alloc ?_ _)); exact BK226.out⟩, ⟨by repeat (first | (with_reducible first | exact HB.out | apply below_alloc | apply pw_below_drewN | apply below_drew1 | refine below_set ?_ GE226.out) | exact HB.out)⟩⟩
    · rw [if_neg c5] at H
      have c5b0 : decide (2000 < (a0_6.size : Int)) = false := decide_eq_false c5
      have c5b1 : decide (2000 < a0_6.size) = false := decide_eq_false (by omega)
      clear c5
      (first | rw [c5b0] | (simp only [i64_w, i32_w]; rw [c5b0]) | skip)
      have H' := Aside0.mk H
      clear H
      have hcz7_0 : w4.cell? ⟨gb226, 0, none⟩ = some (.int .u64 a0_0) := (blk_cell BK226.out 0).trans rfl
      have hcz7_1 : w4.cell? ⟨gb226, 1, none⟩ = some (.int .u64 a0_1) := (blk_cell BK226.out 1).trans rfl
      have hcz7_2 : w4.cell? ⟨gb226, 2, none⟩ = some (.int .u8 a0_2) := (blk_cell BK226.out 2).trans rfl
      have hcz7_3 : w4.cell? ⟨gb226, 3, none⟩ = some (.bool a0_3) := (blk_cell BK226.out 3).trans rfl
      have hcz7_4 : w4.cell? ⟨gb226, 4, none⟩ = some (.int .u16 a0_4) := (blk_cell BK226.out 4).trans rfl
      have hcz7_5 : w4.cell? ⟨gb226, 5, none⟩ = some (.int .u16 a0_5) := (blk_cell BK226.out 5).trans rfl
      have hcz7_6 : w4.cell? ⟨gb226, 6, none⟩ = some (.string a0_6) := (blk_cell BK226.out 6).trans rfl
      have hfz7_0 := blk_frozen BK226.out 0
      have hfz7_1 := blk_frozen BK226.out 1
      have hfz7_2 := blk_frozen BK226.out 2
      have hfz7_3 := blk_frozen BK226.out 3
      have hfz7_4 := blk_frozen BK226.out 4
      have hfz7_5 := blk_frozen BK226.out 5
      have hfz7_6 := blk_frozen BK226.out 6
      go_wp2
      go_meet
      case rel => exact ⟨_, (decide ((a1.size : Int) > 2000)), (by first | rfl | (simp; done) | (simp [*]; done)), H', ⟨by first | omega | exact Nat.le_refl _⟩, ⟨by (with_reducible repeat (first | refine blk_drewN ?_ _ | refine blk_drew ?_ | refine blk_alloc ?_ _)); exact BK226.out⟩, ⟨by repeat (first | (with_reducible first | exact HB.out | apply below_alloc | apply pw_below_drewN | apply below_drew1 | refine below_set ?_ GE226.out) | exact HB.out)⟩⟩
  case rest =>
    clear HC3
    try clear p2
    try clear c4
    try clear c5
    try clear c5b0
    try clear c5b1
    try clear hcz6_0
    try clear hcz6_1
    try clear hcz6_2
    try clear hcz6_3
    try clear hcz6_4
    try clear hcz6_5
    try clear hcz6_6
    try clear hcz7_0
    try clear hcz7_1
    try clear hcz7_2
    try clear hcz7_3
    try clear hcz7_4
    try clear hcz7_5
    try clear hcz7_6
    try clear hfz6_0
    try clear hfz6_1
    try clear hfz6_2
    try clear hfz6_3
    try clear hfz6_4
    try clear hfz6_5
    try clear hfz6_6
    try clear hfz7_0
    try clear hfz7_1
    try clear hfz7_2
    try clear hfz7_3
    try clear hfz7_4
    try clear hfz7_5
    try clear hfz7_6
    obtain ⟨kq, x20_2, rfl, HA, HJ2, BK226, HB⟩ := hcut
    cases kq with
    | zero => exact absurd HA.out (by simp [carousellaw03_TaggedBack.j0])
    | succ kj2 =>
      have H := HA.out
      clear HA
      simp only [carousellaw03_TaggedBack.j0] at H
      by_cases c8 : x20_2 = true
      · subst c8
        have H1 : ((carousellaw03_Awake.f kj2).bind fun t227 => (some t227)) = some r := by rw [if_pos rfl] at H; exact H
        clear H
        have H := H1
        clear H1
        replace H := Option.bind_eq_some_iff.mp H
        obtain ⟨t227, A90, H⟩ := H
        replace H : (some t227) = some r := H
        have A9 := Aside0.mk A90
        clear A90
        obtain rfl := Option.some.inj H
        go_wp2_with (first | ((with_reducible refine gate_callee (f := 9) rfl ?_); refine goesL_ (some 21) rfl rfl Try.func9 (by kernel_rfl) rfl #[] rfl (by (try simp only [List.map_toArray, List.map_cons, List.map_nil]); first | done | rfl | (simp only [List.length_drop, List.length_take]; rfl)) ?_; (with_reducible refine (carousellaw03_Awake.calls kj2  t227 _ A9.out).mono ?_); rintro e w10 ⟨rfl, hb⟩; refine ⟨_, rfl, ?_⟩; have n0_ := Aside0.mk (blk_below (g := gb226) (o := .cells #[.int .u64 a0_0, .int .u64 a0_1, .int .u8 a0_2, .bool a0_3, .int .u16 a0_4, .int .u16 a0_5, .string a0_6] 27 (0, 0)) (by (with_reducible repeat (first | refine blk_drewN ?_ _ | refine blk_drew ?_ | refine blk_alloc ?_ _)); exact BK226.out) hb); have n1_ := Aside0.mk (below_step (by repeat (first | (with_reducible first | exact HB.out | apply below_alloc | apply pw_below_drewN | apply below_drew1 | refine below_set ?_ GE226.out) | exact HB.out)) hb); clear BK226; clear HB; have BK226 := n0_; have HB := n1_; clear n0_ n1_; (try clear hb); (try clear hb2); (try clear hk); (try clear hi)))
        go_ret
        exact ⟨by first | rfl | (simp [errW_none, errW_some] <;> rfl) | (simp [*, errW_none, errW_some] <;> rfl), by repeat (first | (with_reducible first | exact HB.out | apply below_alloc | apply pw_below_drewN | apply below_drew1 | refine below_set ?_ GE226.out) | exact HB.out)⟩
      · replace c8 := Bool.eq_false_iff.mpr c8
        subst c8
        have H1 : ((tagged_Close.f kj2 a0_0 a0_1 a0_2 a0_3 a0_4 a0_5 a0_6).bind fun bt228 => (if bt228.2 = 0 then ((tagged_Open.f kj2 bt228.1).bind fun bt230 => (if bt230.2.2.2.2.2.2.2 = 0 then (if (!(bt230.1 == a0_0) || (!(bt230.2.1 == a0_1) || (!(bt230.2.2.1 == a0_2) || (!(bt230.2.2.2.1 == a0_3) || (!(bt230.2.2.2.2.1 == a0_4) || (!(bt230.2.2.2.2.2.1 == a0_5) || (!(bt230.2.2.2.2.2.2.1.toList == a0_6.toList)))))))) = true then (some false) else (carousellaw03_TaggedBack.j1 kj2 a1)) else (some false))) else (carousellaw03_TaggedBack.j1 kj2 a1))) = some r := by rw [if_neg (show ¬ (false = true) by decide)] at H; exact H
        clear H
        have H := H1
        clear H1
        replace H := Option.bind_eq_some_iff.mp H
        obtain ⟨⟨t228, t229⟩, A110, H⟩ := H
        replace H : (if t229 = 0 then ((tagged_Open.f kj2 t228).bind fun bt230 => (if bt230.2.2.2.2.2.2.2 = 0 then (if (!(bt230.1 == a0_0) || (!(bt230.2.1 == a0_1) || (!(bt230.2.2.1 == a0_2) || (!(bt230.2.2.2.1 == a0_3) || (!(bt230.2.2.2.2.1 == a0_4) || (!(bt230.2.2.2.2.2.1 == a0_5) || (!(bt230.2.2.2.2.2.2.1.toList == a0_6.toList)))))))) = true then (some false) else (carousellaw03_TaggedBack.j1 kj2 a1)) else (some false))) else (carousellaw03_TaggedBack.j1 kj2 a1)) = some r := H
        have A11 := Aside0.mk A110
        clear A110
        have HC12 := Aside0.mk H
        clear H
        have hcz13_0 : wc.cell? ⟨gb226, 0, none⟩ = some (.int .u64 a0_0) := (blk_cell BK226.out 0).trans rfl
        have hcz13_1 : wc.cell? ⟨gb226, 1, none⟩ = some (.int .u64 a0_1) := (blk_cell BK226.out 1).trans rfl
        have hcz13_2 : wc.cell? ⟨gb226, 2, none⟩ = some (.int .u8 a0_2) := (blk_cell BK226.out 2).trans rfl
        have hcz13_3 : wc.cell? ⟨gb226, 3, none⟩ = some (.bool a0_3) := (blk_cell BK226.out 3).trans rfl
        have hcz13_4 : wc.cell? ⟨gb226, 4, none⟩ = some (.int .u16 a0_4) := (blk_cell BK226.out 4).trans rfl
        have hcz13_5 : wc.cell? ⟨gb226, 5, none⟩ = some (.int .u16 a0_5) := (blk_cell BK226.out 5).trans rfl
        have hcz13_6 : wc.cell? ⟨gb226, 6, none⟩ = some (.string a0_6) := (blk_cell BK226.out 6).trans rfl
        have hfz13_0 := blk_frozen BK226.out 0
        have hfz13_1 := blk_frozen BK226.out 1
        have hfz13_2 := blk_frozen BK226.out 2
        have hfz13_3 := blk_frozen BK226.out 3
        have hfz13_4 := blk_frozen BK226.out 4
        have hfz13_5 := blk_frozen BK226.out 5
        have hfz13_6 := blk_frozen BK226.out 6
        go_upto_if 28 with (first | ((with_reducible refine gate_callee (f := 13) rfl ?_); refine goesL_ (some 24) rfl rfl Try.func13 (by kernel_rfl) rfl #[.agg #[.int .u64 a0_0, .int .u64 a0_1, .int .u8 a0_2, .bool a0_3, .int .u16 a0_4, .int .u16 a0_5, .string a0_6]] rfl (by (try simp only [List.map_toArray, List.map_cons, List.map_nil]); first | done | rfl | (simp only [List.length_drop, List.length_take]; rfl)) ?_; (with_reducible refine (tagged_Close.calls kj2 a0_0 a0_1 a0_2 a0_3 a0_4 a0_5 a0_6 t228 t229 _ A11.out).mono ?_); rintro e w14 ⟨rfl, hb⟩; refine ⟨_, rfl, ?_⟩; have n0_ := Aside0.mk (blk_below (g := gb226) (o := .cells #[.int .u64 a0_0, .int .u64 a0_1, .int .u8 a0_2, .bool a0_3, .int .u16 a0_4, .int .u16 a0_5, .string a0_6] 27 (0, 0)) (by (with_reducible repeat (first | refine blk_drewN ?_ _ | refine blk_drew ?_ | refine blk_alloc ?_ _)); exact BK226.out) hb); have n1_ := Aside0.mk (below_step (by repeat (first | (with_reducible first | exact HB.out | apply below_alloc | apply pw_below_drewN | apply below_drew1 | refine below_set ?_ GE226.out) | exact HB.out)) hb); clear BK226; clear HB; have BK226 := n0_; have HB := n1_; clear n0_ n1_; (try clear hb); (try clear hb2); (try clear hk); (try clear hi)))
        (try simp only [Act.put, List.setIfInBounds_toArray, List.set_cons_zero, List.set_cons_succ])
        go_cut [] (fun wc => ∃ (kq : Nat), Aside0 (carousellaw03_TaggedBack.j1 kq a1 = some r) ∧ Aside0 (kq ≤ kj2) ∧ Aside0 (wc.heap[gb226]? = some (.cells #[.int .u64 a0_0, .int .u64 a0_1, .int .u8 a0_2, .bool a0_3, .int .u16 a0_4, .int .u16 a0_5, .string a0_6] 27 (0, 0))) ∧ Aside0 (Below w.heap.size w wc))
        case first =>
          have H := HC12.out
          clear HC12
          by_cases c15 : t229 = 0
          · rw [if_pos c15] at H
            have c15b0 : (t229 == 0) = true := beq_iff_eq.mpr c15
            have c15b1 : (t229 != 0) = false := bne_eq_false_iff_eq.mpr c15
            clear c15
            (first | rw [c15b0] | (simp only [i64_w, i32_w]; rw [c15b0]) | skip)
            replace H := Option.bind_eq_some_iff.mp H
            obtain ⟨⟨t230, t231, t232, t233, t234, t235, t236, t237⟩, A160, H⟩ := H
            replace H : (if t237 = 0 then (if (!(t230 == a0_0) || (!(t231 == a0_1) || (!(t232 == a0_2) || (!(t233 == a0_3) || (!(t234 == a0_4) || (!(t235 == a0_5) || (!(t236.toList == a0_6.toList)))))))) = true then (some false) else (carousellaw03_TaggedBack.j1 kj2 a1)) else (some false)) = some r := H
            have A16 := Aside0.mk A160
            clear A160
            by_cases c17 : t237 = 0
            · rw [if_pos c17] at H
              have c17b0 : (t237 == 0) = true := beq_iff_eq.mpr c17
              have c17b1 : (t237 != 0) = false := bne_eq_false_iff_eq.mpr c17
              clear c17
              by_cases c18 : (!(t230 == a0_0) || (!(t231 == a0_1) || (!(t232 == a0_2) || (!(t233 == a0_3) || (!(t234 == a0_4) || (!(t235 == a0_5) || (!(t236.toList == a0_6.toList)))))))) = true
              · rw [if_pos c18] at H
                have c18b0 : (!(t230 == a0_0) || (!(t231 == a0_1) || (!(t232 == a0_2) || (!(t233 == a0_3) || (!(t234 == a0_4) || (!(t235 == a0_5) || (!(t236.toList == a0_6.toList)))))))) = true := c18
                clear c18
                obtain rfl := Option.some.inj H
                go_wp2_with (first | ((with_reducible refine gate_callee (f := 10) rfl ?_); refine goesL_ (some 31) rfl rfl Try.func10 (by kernel_rfl) rfl #[.string t228] rfl (by (try simp only [List.map_toArray, List.map_cons, List.map_nil]); first | done | rfl | (simp only [List.length_drop, List.length_take]; rfl)) ?_; (with_reducible refine (tagged_Open.calls kj2 t228 t230 t231 t232 t233 t234 t235 t236 t237 _ A16.out).mono ?_); rintro e w19 ⟨rfl, hb⟩; refine ⟨_, rfl, ?_⟩; have n0_ := Aside0.mk (blk_below (g := gb226) (o := .cells #[.int .u64 a0_0, .int .u64 a0_1, .int .u8 a0_2, .bool a0_3, .int .u16 a0_4, .int .u16 a0_5, .string a0_6] 27 (0, 0)) (by (with_reducible repeat (first | refine blk_drewN ?_ _ | refine blk_drew ?_ | refine blk_alloc ?_ _)); exact BK226.out) hb); have n1_ := Aside0.mk (below_step (by repeat (first | (with_reducible first | exact HB.out | apply below_alloc | apply pw_below_drewN | apply below_drew1 | refine below_set ?_ GE226.out) | exact HB.out)) hb); clear BK226; clear HB; have BK226 := n0_; have HB := n1_; clear n0_ n1_; (try clear hb); (try clear hb2); (try clear hk); (try clear hi)) | ((with_reducible refine gate_dst (N := 7) rfl ?_); (try (refine gate_guard (by rfl) ?_; dsimp only)); refine box_event ?hg (N := 7) ?hd (cs := #[.int .u64 0, .int .u64 0, .int .u8 0, .bool false, .int .u16 0, .int .u16 0, .string (⟨#[]⟩ : ByteArray)]) (t := 27) ?hr ?_; (case hd => rfl); (case hg => rfl); (case hr => first | (go_simp; done) | (go_simp; rfl)); intro gb238 hg w20 hbox hb; have n0_ := Aside0.mk (blk_below (g := gb226) (o := .cells #[.int .u64 a0_0, .int .u64 a0_1, .int .u8 a0_2, .bool a0_3, .int .u16 a0_4, .int .u16 a0_5, .string a0_6] 27 (0, 0)) (by (with_reducible repeat (first | refine blk_drewN ?_ _ | refine blk_drew ?_ | refine blk_alloc ?_ _)); exact BK226.out) hb); have n1_ := Aside0.mk (below_step (by repeat (first | (with_reducible first | exact HB.out | apply below_alloc | apply pw_below_drewN | apply below_drew1 | refine below_set ?_ GE226.out) | exact HB.out)) hb); have n2_ := Aside0.mk (hbox); have n3_ := Aside0.mk ((by rw [hg]; exact (below_size (by repeat (first | (with_reducible first | exact HB.out | apply below_alloc | apply pw_below_drewN | apply below_drew1 | refine below_set ?_ GE226.out) | exact HB.out))) : w.heap.size ≤ gb238)); have n4_ := Aside0.mk ((by rw [hg]; exact (below_size (by repeat (first | (with_reducible first | exact HB.out | apply below_alloc | apply pw_below_drewN | apply below_drew1 | refine below_set ?_ GE226.out) | exact HB.out))) : w.heap.size ≤ gb238)); have n5_ := Aside0.mk ((by rw [hg]; exact Nat.ne_of_lt (blk_lt (g := gb226) (o := .cells #[.int .u64 a0_0, .int .u64 a0_1, .int .u8 a0_2, .bool a0_3, .int .u16 a0_4, .int .u16 a0_5, .string a0_6] 27 (0, 0)) (by (with_reducible repeat (first | refine blk_drewN ?_ _ | refine blk_drew ?_ | refine blk_alloc ?_ _)); exact BK226.out)) : gb226 ≠ gb238)); have n6_ := Aside0.mk ((by rw [hg]; exact Nat.ne_of_gt (blk_lt (g := gb226) (o := .cells #[.int .u64 a0_0, .int .u64 a0_1, .int .u8 a0_2, .bool a0_3, .int .u16 a0_4, .int .u16 a0_5, .string a0_6] 27 (0, 0)) (by (with_reducible repeat (first | refine blk_drewN ?_ _ | refine blk_drew ?_ | refine blk_alloc ?_ _)); exact BK226.out)) : gb238 ≠ gb226)); clear BK226; clear HB; have BK226 := n0_; have HB := n1_; have BK238 := n2_; have GW238 := n3_; have GE238 := n4_; have NB226_238 := n5_; have NB238_226 := n6_; clear n0_ n1_ n2_ n3_ n4_ n5_ n6_; clear hb hbox hg; have hnb21 := NB238_226.out; have hnc21 := NB226_238.out; have hcz22_0 : w20.cell? ⟨gb238, 0, none⟩ = some (.int .u64 0) := (blk_cell BK238.out 0).trans rfl; have hcz22_1 : w20.cell? ⟨gb238, 1, none⟩ = some (.int .u64 0) := (blk_cell BK238.out 1).trans rfl; have hcz22_2 : w20.cell? ⟨gb238, 2, none⟩ = some (.int .u8 0) := (blk_cell BK238.out 2).trans rfl; have hcz22_3 : w20.cell? ⟨gb238, 3, none⟩ = some (.bool false) := (blk_cell BK238.out 3).trans rfl; have hcz22_4 : w20.cell? ⟨gb238, 4, none⟩ = some (.int .u16 0) := (blk_cell BK238.out 4).trans rfl; have hcz22_5 : w20.cell? ⟨gb238, 5, none⟩ = some (.int .u16 0) := (blk_cell BK238.out 5).trans rfl; have hcz22_6 : w20.cell? ⟨gb238, 6, none⟩ = some (.string (⟨#[]⟩ : ByteArray)) := (blk_cell BK238.out 6).trans rfl; have hfz22_0 := blk_frozen BK238.out 0; have hfz22_1 := blk_frozen BK238.out 1; have hfz22_2 := blk_frozen BK238.out 2; have hfz22_3 := blk_frozen BK238.out 3; have hfz22_4 := blk_frozen BK238.out 4; have hfz22_5 := blk_frozen BK238.out 5; have hfz22_6 := blk_frozen BK238.out 6; have hcz23_0 : w20.cell? ⟨gb226, 0, none⟩ = some (.int .u64 a0_0) := (blk_cell BK226.out 0).trans rfl; have hcz23_1 : w20.cell? ⟨gb226, 1, none⟩ = some (.int .u64 a0_1) := (blk_cell BK226.out 1).trans rfl; have hcz23_2 : w20.cell? ⟨gb226, 2, none⟩ = some (.int .u8 a0_2) := (blk_cell BK226.out 2).trans rfl; have hcz23_3 : w20.cell? ⟨gb226, 3, none⟩ = some (.bool a0_3) := (blk_cell BK226.out 3).trans rfl; have hcz23_4 : w20.cell? ⟨gb226, 4, none⟩ = some (.int .u16 a0_4) := (blk_cell BK226.out 4).trans rfl; have hcz23_5 : w20.cell? ⟨gb226, 5, none⟩ = some (.int .u16 a0_5) := (blk_cell BK226.out 5).trans rfl; have hcz23_6 : w20.cell? ⟨gb226, 6, none⟩ = some (.string a0_6) := (blk_cell BK226.out 6).trans rfl; have hfz23_0 := blk_frozen BK226.out 0; have hfz23_1 := blk_frozen BK226.out 1; have hfz23_2 := blk_frozen BK226.out 2; have hfz23_3 := blk_frozen BK226.out 3; have hfz23_4 := blk_frozen BK226.out 4; have hfz23_5 := blk_frozen BK226.out 5; have hfz23_6 := blk_frozen BK226.out 6))
                go_ret
                exact ⟨by first | rfl | (simp [errW_none, errW_some] <;> rfl) | (simp [*, errW_none, errW_some] <;> rfl), by repeat (first | (with_reducible first | exact HB.out | apply below_alloc | apply pw_below_drewN | apply below_drew1 | refine below_set ?_ GE226.out | refine below_set ?_ GE238.out) | exact HB.out)⟩
              · rw [if_neg c18] at H
                have c18b0 : (!(t230 == a0_0) || (!(t231 == a0_1) || (!(t232 == a0_2) || (!(t233 == a0_3) || (!(t234 == a0_4) || (!(t235 == a0_5) || (!(t236.toList == a0_6.toList)))))))) = false := by simpa using c18
                clear c18
                have H' := Aside0.mk H
                clear H
                go_wp2_with (first | ((with_reducible refine gate_callee (f := 10) rfl ?_); refine goesL_ (some 31) rfl rfl Try.func10 (by kernel_rfl) rfl #[.string t228] rfl (by (try simp only [List.map_toArray, List.map_cons, List.map_nil]); first | done | rfl | (simp only [List.length_drop, List.length_take]; rfl)) ?_; (with_reducible refine (tagged_Open.calls kj2 t228 t230 t231 t232 t233 t234 t235 t236 t237 _ A16.out).mono ?_); rintro e w24 ⟨rfl, hb⟩; refine ⟨_, rfl, ?_⟩; have n0_ := Aside0.mk (blk_below (g := gb226) (o := .cells #[.int .u64 a0_0, .int .u64 a0_1, .int .u8 a0_2, .bool a0_3, .int .u16 a0_4, .int .u16 a0_5, .string a0_6] 27 (0, 0)) (by (with_reducible repeat (first | refine blk_drewN ?_ _ | refine blk_drew ?_ | refine blk_alloc ?_ _)); exact BK226.out) hb); have n1_ := Aside0.mk (below_step (by repeat (first | (with_reducible first | exact HB.out | apply below_alloc | apply pw_below_drewN | apply below_drew1 | refine below_set ?_ GE226.out) | exact HB.out)) hb); clear BK226; clear HB; have BK226 := n0_; have HB := n1_; clear n0_ n1_; (try clear hb); (try clear hb2); (try clear hk); (try clear hi)) | ((with_reducible refine gate_dst (N := 7) rfl ?_); (try (refine gate_guard (by rfl) ?_; dsimp only)); refine box_event ?hg (N := 7) ?hd (cs := #[.int .u64 0, .int .u64 0, .int .u8 0, .bool false, .int .u16 0, .int .u16 0, .string (⟨#[]⟩ : ByteArray)]) (t := 27) ?hr ?_; (case hd => rfl); (case hg => rfl); (case hr => first | (go_simp; done) | (go_simp; rfl)); intro gb238 hg w25 hbox hb; have n0_ := Aside0.mk (blk_below (g := gb226) (o := .cells #[.int .u64 a0_0, .int .u64 a0_1, .int .u8 a0_2, .bool a0_3, .int .u16 a0_4, .int .u16 a0_5, .string a0_6] 27 (0, 0)) (by (with_reducible repeat (first | refine blk_drewN ?_ _ | refine blk_drew ?_ | refine blk_alloc ?_ _)); exact BK226.out) hb); have n1_ := Aside0.mk (below_step (by repeat (first | (with_reducible first | exact HB.out | apply below_alloc | apply pw_below_drewN | apply below_drew1 | refine below_set ?_ GE226.out) | exact HB.out)) hb); have n2_ := Aside0.mk (hbox); have n3_ := Aside0.mk ((by rw [hg]; exact (below_size (by repeat (first | (with_reducible first | exact HB.out | apply below_alloc | apply pw_below_drewN | apply below_drew1 | refine below_set ?_ GE226.out) | exact HB.out))) : w.heap.size ≤ gb238)); have n4_ := Aside0.mk ((by rw [hg]; exact (below_size (by repeat (first | (with_reducible first | exact HB.out | apply below_alloc | apply pw_below_drewN | apply below_drew1 | refine below_set ?_ GE226.out) | exact HB.out))) : w.heap.size ≤ gb238)); have n5_ := Aside0.mk ((by rw [hg]; exact Nat.ne_of_lt (blk_lt (g := gb226) (o := .cells #[.int .u64 a0_0, .int .u64 a0_1, .int .u8 a0_2, .bool a0_3, .int .u16 a0_4, .int .u16 a0_5, .string a0_6] 27 (0, 0)) (by (with_reducible repeat (first | refine blk_drewN ?_ _ | refine blk_drew ?_ | refine blk_alloc ?_ _)); exact BK226.out)) : gb226 ≠ gb238)); have n6_ := Aside0.mk ((by rw [hg]; exact Nat.ne_of_gt (blk_lt (g := gb226) (o := .cells #[.int .u64 a0_0, .int .u64 a0_1, .int .u8 a0_2, .bool a0_3, .int .u16 a0_4, .int .u16 a0_5, .string a0_6] 27 (0, 0)) (by (with_reducible repeat (first | refine blk_drewN ?_ _ | refine blk_drew ?_ | refine blk_alloc ?_ _)); exact BK226.out)) : gb238 ≠ gb226)); clear BK226; clear HB; have BK226 := n0_; have HB := n1_; have BK238 := n2_; have GW238 := n3_; have GE238 := n4_; have NB226_238 := n5_; have NB238_226 := n6_; clear n0_ n1_ n2_ n3_ n4_ n5_ n6_; clear hb hbox hg; have hnb26 := NB238_226.out; have hnc26 := NB226_238.out; have hcz27_0 : w25.cell? ⟨gb238, 0, none⟩ = some (.int .u64 0) := (blk_cell BK238.out 0).trans rfl; have hcz27_1 : w25.cell? ⟨gb238, 1, none⟩ = some (.int .u64 0) := (blk_cell BK238.out 1).trans rfl; have hcz27_2 : w25.cell? ⟨gb238, 2, none⟩ = some (.int .u8 0) := (blk_cell BK238.out 2).trans rfl; have hcz27_3 : w25.cell? ⟨gb238, 3, none⟩ = some (.bool false) := (blk_cell BK238.out 3).trans rfl; have hcz27_4 : w25.cell? ⟨gb238, 4, none⟩ = some (.int .u16 0) := (blk_cell BK238.out 4).trans rfl; have hcz27_5 : w25.cell? ⟨gb238, 5, none⟩ = some (.int .u16 0) := (blk_cell BK238.out 5).trans rfl; have hcz27_6 : w25.cell? ⟨gb238, 6, none⟩ = some (.string (⟨#[]⟩ : ByteArray)) := (blk_cell BK238.out 6).trans rfl; have hfz27_0 := blk_frozen BK238.out 0; have hfz27_1 := blk_frozen BK238.out 1; have hfz27_2 := blk_frozen BK238.out 2; have hfz27_3 := blk_frozen BK238.out 3; have hfz27_4 := blk_frozen BK238.out 4; have hfz27_5 := blk_frozen BK238.out 5; have hfz27_6 := blk_frozen BK238.out 6; have hcz28_0 : w25.cell? ⟨gb226, 0, none⟩ = some (.int .u64 a0_0) := (blk_cell BK226.out 0).trans rfl; have hcz28_1 : w25.cell? ⟨gb226, 1, none⟩ = some (.int .u64 a0_1) := (blk_cell BK226.out 1).trans rfl; have hcz28_2 : w25.cell? ⟨gb226, 2, none⟩ = some (.int .u8 a0_2) := (blk_cell BK226.out 2).trans rfl; have hcz28_3 : w25.cell? ⟨gb226, 3, none⟩ = some (.bool a0_3) := (blk_cell BK226.out 3).trans rfl; have hcz28_4 : w25.cell? ⟨gb226, 4, none⟩ = some (.int .u16 a0_4) := (blk_cell BK226.out 4).trans rfl; have hcz28_5 : w25.cell? ⟨gb226, 5, none⟩ = some (.int .u16 a0_5) := (blk_cell BK226.out 5).trans rfl; have hcz28_6 : w25.cell? ⟨gb226, 6, none⟩ = some (.string a0_6) := (blk_cell BK226.out 6).trans rfl; have hfz28_0 := blk_frozen BK226.out 0; have hfz28_1 := blk_frozen BK226.out 1; have hfz28_2 := blk_frozen BK226.out 2; have hfz28_3 := blk_frozen BK226.out 3; have hfz28_4 := blk_frozen BK226.out 4; have hfz28_5 := blk_frozen BK226.out 5; have hfz28_6 := blk_frozen BK226.out 6))
                go_meet
                case rel => exact ⟨_, H', ⟨by have := HJ2.out; first | omega | exact Nat.le_refl _⟩, ⟨by (with_reducible repeat (first | refine blk_drewN ?_ _ | refine blk_drew ?_ | refine blk_alloc ?_ _)); refine blk_far ?_ NB226_238.out _; (with_reducible repeat (first | refine blk_drewN ?_ _ | refine blk_drew ?_ | refine blk_alloc ?_ _)); refine blk_far ?_ NB226_238.out _; (with_reducible repeat (first | refine blk_drewN ?_ _ | refine blk_drew ?_ | refine blk_alloc ?_ _)); refine blk_far ?_ NB226_238.out _; (with_reducible repeat (first | refine blk_drewN ?_ _ | refine blk_drew ?_ | refine blk_alloc ?_ _)); refine blk_far ?_ NB226_238.out _; (with_reducible repeat (first | refine blk_drewN ?_ _ | refine blk_drew ?_ | refine blk_alloc ?_ _)); refine blk_far ?_ NB226_238.out _; (with_reducible repeat (first | refine blk_drewN ?_ _ | refine blk_drew ?_ | refine blk_alloc ?_ _)); refine blk_far ?_ NB226_238.out _; (with_reducible repeat (first | refine blk_drewN ?_ _ | refine blk_drew ?_ | refine blk_alloc ?_ _)); refine blk_far ?_ NB226_238.out _; (with_reducible repeat (first | refine blk_drewN ?_ _ | refine blk_drew ?_ | refine blk_alloc ?_ _)); exact BK226.out⟩, ⟨by repeat (first | (with_reducible first | exact HB.out | apply below_alloc | apply pw_below_drewN | apply below_drew1 | refine below_set ?_ GE226.out | refine below_set ?_ GE238.out) | exact HB.out)⟩⟩
            · rw [if_neg c17] at H
              have c17b0 : (t237 == 0) = false := beq_eq_false_iff_ne.mpr c17
              have c17b1 : (t237 != 0) = true := bne_iff_ne.mpr c17
              obtain rfl := Option.some.inj H
              go_wp2_with (first | ((with_reducible refine gate_callee (f := 10) rfl ?_); refine goesL_ (some 31) rfl rfl Try.func10 (by kernel_rfl) rfl #[.string t228] rfl (by (try simp only [List.map_toArray, List.map_cons, List.map_nil]); first | done | rfl | (simp only [List.length_drop, List.length_take]; rfl)) ?_; (with_reducible refine (tagged_Open.calls kj2 t228 t230 t231 t232 t233 t234 t235 t236 t237 _ A16.out).mono ?_); rintro e w29 ⟨rfl, hb⟩; refine ⟨_, rfl, ?_⟩; have n0_ := Aside0.mk (blk_below (g := gb226) (o := .cells #[.int .u64 a0_0, .int .u64 a0_1, .int .u8 a0_2, .bool a0_3, .int .u16 a0_4, .int .u16 a0_5, .string a0_6] 27 (0, 0)) (by (with_reducible repeat (first | refine blk_drewN ?_ _ | refine blk_drew ?_ | refine blk_alloc ?_ _)); exact BK226.out) hb); have n1_ := Aside0.mk (below_step (by repeat (first | (with_reducible first | exact HB.out | apply below_alloc | apply pw_below_drewN | apply below_drew1 | refine below_set ?_ GE226.out) | exact HB.out)) hb); clear BK226; clear HB; have BK226 := n0_; have HB := n1_; clear n0_ n1_; (try clear hb); (try clear hb2); (try clear hk); (try clear hi)) | ((with_reducible refine gate_dst (N := 7) rfl ?_); (try (refine gate_guard (by rfl) ?_; dsimp only)); refine box_event ?hg (N := 7) ?hd (cs := #[.int .u64 0, .int .u64 0, .int .u8 0, .bool false, .int .u16 0, .int .u16 0, .string (⟨#[]⟩ : ByteArray)]) (t := 27) ?hr ?_; (case hd => rfl); (case hg => rfl); (case hr => first | (go_simp; done) | (go_simp; rfl)); intro gb238 hg w30 hbox hb; have n0_ := Aside0.mk (blk_below (g := gb226) (o := .cells #[.int .u64 a0_0, .int .u64 a0_1, .int .u8 a0_2, .bool a0_3, .int .u16 a0_4, .int .u16 a0_5, .string a0_6] 27 (0, 0)) (by (with_reducible repeat (first | refine blk_drewN ?_ _ | refine blk_drew ?_ | refine blk_alloc ?_ _)); exact BK226.out) hb); have n1_ := Aside0.mk (below_step (by repeat (first | (with_reducible first | exact HB.out | apply below_alloc | apply pw_below_drewN | apply below_drew1 | refine below_set ?_ GE226.out) | exact HB.out)) hb); have n2_ := Aside0.mk (hbox); have n3_ := Aside0.mk ((by rw [hg]; exact (below_size (by repeat (first | (with_reducible first | exact HB.out | apply below_alloc | apply pw_below_drewN | apply below_drew1 | refine below_set ?_ GE226.out) | exact HB.out))) : w.heap.size ≤ gb238)); have n4_ := Aside0.mk ((by rw [hg]; exact (below_size (by repeat (first | (with_reducible first | exact HB.out | apply below_alloc | apply pw_below_drewN | apply below_drew1 | refine below_set ?_ GE226.out) | exact HB.out))) : w.heap.size ≤ gb238)); have n5_ := Aside0.mk ((by rw [hg]; exact Nat.ne_of_lt (blk_lt (g := gb226) (o := .cells #[.int .u64 a0_0, .int .u64 a0_1, .int .u8 a0_2, .bool a0_3, .int .u16 a0_4, .int .u16 a0_5, .string a0_6] 27 (0, 0)) (by (with_reducible repeat (first | refine blk_drewN ?_ _ | refine blk_drew ?_ | refine blk_alloc ?_ _)); exact BK226.out)) : gb226 ≠ gb238)); have n6_ := Aside0.mk ((by rw [hg]; exact Nat.ne_of_gt (blk_lt (g := gb226) (o := .cells #[.int .u64 a0_0, .int .u64 a0_1, .int .u8 a0_2, .bool a0_3, .int .u16 a0_4, .int .u16 a0_5, .string a0_6] 27 (0, 0)) (by (with_reducible repeat (first | refine blk_drewN ?_ _ | refine blk_drew ?_ | refine blk_alloc ?_ _)); exact BK226.out)) : gb238 ≠ gb226)); clear BK226; clear HB; have BK226 := n0_; have HB := n1_; have BK238 := n2_; have GW238 := n3_; have GE238 := n4_; have NB226_238 := n5_; have NB238_226 := n6_; clear n0_ n1_ n2_ n3_ n4_ n5_ n6_; clear hb hbox hg; have hnb31 := NB238_226.out; have hnc31 := NB226_238.out; have hcz32_0 : w30.cell? ⟨gb238, 0, none⟩ = some (.int .u64 0) := (blk_cell BK238.out 0).trans rfl; have hcz32_1 : w30.cell? ⟨gb238, 1, none⟩ = some (.int .u64 0) := (blk_cell BK238.out 1).trans rfl; have hcz32_2 : w30.cell? ⟨gb238, 2, none⟩ = some (.int .u8 0) := (blk_cell BK238.out 2).trans rfl; have hcz32_3 : w30.cell? ⟨gb238, 3, none⟩ = some (.bool false) := (blk_cell BK238.out 3).trans rfl; have hcz32_4 : w30.cell? ⟨gb238, 4, none⟩ = some (.int .u16 0) := (blk_cell BK238.out 4).trans rfl; have hcz32_5 : w30.cell? ⟨gb238, 5, none⟩ = some (.int .u16 0) := (blk_cell BK238.out 5).trans rfl; have hcz32_6 : w30.cell? ⟨gb238, 6, none⟩ = some (.string (⟨#[]⟩ : ByteArray)) := (blk_cell BK238.out 6).trans rfl; have hfz32_0 := blk_frozen BK238.out 0; have hfz32_1 := blk_frozen BK238.out 1; have hfz32_2 := blk_frozen BK238.out 2; have hfz32_3 := blk_frozen BK238.out 3; have hfz32_4 := blk_frozen BK238.out 4; have hfz32_5 := blk_frozen BK238.out 5; have hfz32_6 := blk_frozen BK238.out 6))
              go_ret
              exact ⟨by first | rfl | (simp [errW_none, errW_some] <;> rfl) | (simp [*, errW_none, errW_some] <;> rfl), by repeat (first | (with_reducible first | exact HB.out | apply below_alloc | apply pw_below_drewN | apply below_drew1 | refine below_set ?_ GE226.out | refine below_set ?_ GE238.out) | exact HB.out)⟩
          · rw [if_neg c15] at H
            have c15b0 : (t229 == 0) = false := beq_eq_false_iff_ne.mpr c15
            have c15b1 : (t229 != 0) = true := bne_iff_ne.mpr c15
            (first | rw [c15b0] | (simp only [i64_w, i32_w]; rw [c15b0]) | skip)
            have H' := Aside0.mk H
            clear H
            go_wp2
            go_meet
            case rel => exact ⟨_, H', ⟨by have := HJ2.out; first | omega | exact Nat.le_refl _⟩, ⟨by (with_reducible repeat (first | refine blk_drewN ?_ _ | refine blk_drew ?_ | refine blk_alloc ?_ _)); exact BK226.out⟩, ⟨by repeat (first | (with_reducible first | exact HB.out | apply below_alloc | apply pw_below_drewN | apply below_drew1 | refine below_set ?_ GE226.out) | exact HB.out)⟩⟩
        case rest =>
          clear HC12
          try clear c1
          try clear c2
          try clear p2
          try clear c3
          try clear c4
          try clear c5
          try clear c5b0
          try clear c5b1
          try clear c8
          try clear c9
          try clear c10
          try clear c13
          try clear c15
          try clear c15b0
          try clear c15b1
          try clear c17
          try clear c17b0
          try clear c17b1
          try clear c18
          try clear c18b0
          try clear c21
          try clear c26
          try clear c31
          try clear hcz13_0
          try clear hcz13_1
          try clear hcz13_2
          try clear hcz13_3
          try clear hcz13_4
          try clear hcz13_5
          try clear hcz13_6
          try clear hcz22_0
          try clear hcz22_1
          try clear hcz22_2
          try clear hcz22_3
          try clear hcz22_4
          try clear hcz22_5
          try clear hcz22_6
          try clear hcz23_0
          try clear hcz23_1
          try clear hcz23_2
          try clear hcz23_3
          try clear hcz23_4
          try clear hcz23_5
          try clear hcz23_6
          try clear hcz27_0
          try clear hcz27_1
          try clear hcz27_2
          try clear hcz27_3
          try clear hcz27_4
          try clear hcz27_5
          try clear hcz27_6
          try clear hcz28_0
          try clear hcz28_1
          try clear hcz28_2
          try clear hcz28_3
          try clear hcz28_4
          try clear hcz28_5
          try clear hcz28_6
          try clear hcz32_0
          try clear hcz32_1
          try clear hcz32_2
          try clear hcz32_3
          try clear hcz32_4
          try clear hcz32_5
          try clear hcz32_6
          try clear hcz6_0
          try clear hcz6_1
          try clear hcz6_2
          try clear hcz6_3
          try clear hcz6_4
          try clear hcz6_5
          try clear hcz6_6
          try clear hcz7_0
          try clear hcz7_1
          try clear hcz7_2
          try clear hcz7_3
          try clear hcz7_4
          try clear hcz7_5
          try clear hcz7_6
          try clear hfz13_0
          try clear hfz13_1
          try clear hfz13_2
          try clear hfz13_3
          try clear hfz13_4
          try clear hfz13_5
          try clear hfz13_6
          try clear hfz22_0
          try clear hfz22_1
          try clear hfz22_2
          try clear hfz22_3
          try clear hfz22_4
          try clear hfz22_5
          try clear hfz22_6
          try clear hfz23_0
          try clear hfz23_1
          try clear hfz23_2
          try clear hfz23_3
          try clear hfz23_4
          try clear hfz23_5
          try clear hfz23_6
          try clear hfz27_0
          try clear hfz27_1
          try clear hfz27_2
          try clear hfz27_3
          try clear hfz27_4
          try clear hfz27_5
          try clear hfz27_6
          try clear hfz28_0
          try clear hfz28_1
          try clear hfz28_2
          try clear hfz28_3
          try clear hfz28_4
          try clear hfz28_5
          try clear hfz28_6
          try clear hfz32_0
          try clear hfz32_1
          try clear hfz32_2
          try clear hfz32_3
          try clear hfz32_4
          try clear hfz32_5
          try clear hfz32_6
          try clear hfz6_0
          try clear hfz6_1
          try clear hfz6_2
          try clear hfz6_3
          try clear hfz6_4
          try clear hfz6_5
          try clear hfz6_6
          try clear hfz7_0
          try clear hfz7_1
          try clear hfz7_2
          try clear hfz7_3
          try clear hfz7_4
          try clear hfz7_5
          try clear hfz7_6
          try clear p2
          obtain ⟨kq, HA, HJ11, BK226, HB⟩ := hcut
          cases kq with
          | zero => exact absurd HA.out (by simp [carousellaw03_TaggedBack.j1])
          | succ kj11 =>
            have H := HA.out
            clear HA
            simp only [carousellaw03_TaggedBack.j1] at H
            replace H := Option.bind_eq_some_iff.mp H
            obtain ⟨⟨t239, t240, t241, t242, t243, t244, t245, t246⟩, A330, H⟩ := H
            replace H : (if t246 = 0 then ((tagged_Close.f kj11 t239 t240 t241 t242 t243 t244 t245).bind fun bt249 => ((carousellaw03_Awake.f kj11).bind fun t251 => (if t251 = true then (if bt249.2 = 0 then (some (bt249.1.toList == a1.toList)) else (some false)) else (some false)))) else ((carousellaw03_Awake.f kj11).bind fun t248 => (if t248 = true then (some (t239 == 0 && (t240 == 0 && (t241 == 0 && (!t242 && (t243 == 0 && (t244 == 0 && (t245.toList == ([] : List UInt8))))))))) else (some false)))) = some r := H
            have A33 := Aside0.mk A330
            clear A330
            by_cases c34 : t246 = 0
            · rw [if_pos c34] at H
              have c34b0 : (t246 == 0) = true := beq_iff_eq.mpr c34
              have c34b1 : (t246 != 0) = false := bne_eq_false_iff_eq.mpr c34
              clear c34
              replace H := Option.bind_eq_some_iff.mp H
              obtain ⟨⟨t249, t250⟩, A350, H⟩ := H
              replace H : ((carousellaw03_Awake.f kj11).bind fun t251 => (if t251 = true then (if t250 = 0 then (some (t249.toList == a1.toList)) else (some false)) else (some false))) = some r := H
              have A35 := Aside0.mk A350
              clear A350
              replace H := Option.bind_eq_some_iff.mp H
              obtain ⟨t251, A360, H⟩ := H
              replace H : (if t251 = true then (if t250 = 0 then (some (t249.toList == a1.toList)) else (some false)) else (some false)) = some r := H
              have A36 := Aside0.mk A360
              clear A360
              by_cases c37 : t251 = true
              · subst c37
                have H1 : (if t250 = 0 then (some (t249.toList == a1.toList)) else (some false)) = some r := by rw [if_pos rfl] at H; exact H
                clear H
                have H := H1
                clear H1
                by_cases c38 : t250 = 0
                · rw [if_pos c38] at H
                  have c38b0 : (t250 == 0) = true := beq_iff_eq.mpr c38
                  have c38b1 : (t250 != 0) = false := bne_eq_false_iff_eq.mpr c38
                  clear c38
                  obtain rfl := Option.some.inj H
                  go_wp2_with (first | ((with_reducible refine gate_callee (f := 10) rfl ?_); refine goesL_ (some 43) rfl rfl Try.func10 (by kernel_rfl) rfl #[.string a1] rfl (by (try simp only [List.map_toArray, List.map_cons, List.map_nil]); first | done | rfl | (simp only [List.length_drop, List.length_take]; rfl)) ?_; (with_reducible refine (tagged_Open.calls kj11 a1 t239 t240 t241 t242 t243 t244 t245 t246 _ A33.out).mono ?_); rintro e w39 ⟨rfl, hb⟩; refine ⟨_, rfl, ?_⟩; have n0_ := Aside0.mk (blk_below (g := gb226) (o := .cells #[.int .u64 a0_0, .int .u64 a0_1, .int .u8 a0_2, .bool a0_3, .int .u16 a0_4, .int .u16 a0_5, .string a0_6] 27 (0, 0)) (by (with_reducible repeat (first | refine blk_drewN ?_ _ | refine blk_drew ?_ | refine blk_alloc ?_ _)); exact BK226.out) hb); have n1_ := Aside0.mk (below_step (by repeat (first | (with_reducible first | exact HB.out | apply below_alloc | apply pw_below_drewN | apply below_drew1 | refine below_set ?_ GE226.out) | exact HB.out)) hb); clear BK226; clear HB; have BK226 := n0_; have HB := n1_; clear n0_ n1_; (try clear hb); (try clear hb2); (try clear hk); (try clear hi)) | ((with_reducible refine gate_dst (N := 9) rfl ?_); (try (refine gate_guard (by rfl) ?_; dsimp only)); refine box_event ?hg (N := 9) ?hd (cs := #[.int .u64 0, .int .u64 0, .int .u8 0, .bool false, .int .u16 0, .int .u16 0, .string (⟨#[]⟩ : ByteArray)]) (t := 27) ?hr ?_; (case hd => rfl); (case hg => rfl); (case hr => first | (go_simp; done) | (go_simp; rfl)); intro gb247 hg w40 hbox hb; have n0_ := Aside0.mk (blk_below (g := gb226) (o := .cells #[.int .u64 a0_0, .int .u64 a0_1, .int .u8 a0_2, .bool a0_3, .int .u16 a0_4, .int .u16 a0_5, .string a0_6] 27 (0, 0)) (by (with_reducible repeat (first | refine blk_drewN ?_ _ | refine blk_drew ?_ | refine blk_alloc ?_ _)); exact BK226.out) hb); have n1_ := Aside0.mk (below_step (by repeat (first | (with_reducible first | exact HB.out | apply below_alloc | apply pw_below_drewN | apply below_drew1 | refine below_set ?_ GE226.out) | exact HB.out)) hb); have n2_ := Aside0.mk (hbox); have n3_ := Aside0.mk ((by rw [hg]; exact (below_size (by repeat (first | (with_reducible first | exact HB.out | apply below_alloc | apply pw_below_drewN | apply below_drew1 | refine below_set ?_ GE226.out) | exact HB.out))) : w.heap.size ≤ gb247)); have n4_ := Aside0.mk ((by rw [hg]; exact (below_size (by repeat (first | (with_reducible first | exact HB.out | apply below_alloc | apply pw_below_drewN | apply below_drew1 | refine below_set ?_ GE226.out) | exact HB.out))) : w.heap.size ≤ gb247)); have n5_ := Aside0.mk ((by rw [hg]; exact Nat.ne_of_lt (blk_lt (g := gb226) (o := .cells #[.int .u64 a0_0, .int .u64 a0_1, .int .u8 a0_2, .bool a0_3, .int .u16 a0_4, .int .u16 a0_5, .string a0_6] 27 (0, 0)) (by (with_reducible repeat (first | refine blk_drewN ?_ _ | refine blk_drew ?_ | refine blk_alloc ?_ _)); exact BK226.out)) : gb226 ≠ gb247)); have n6_ := Aside0.mk ((by rw [hg]; exact Nat.ne_of_gt (blk_lt (g := gb226) (o := .cells #[.int .u64 a0_0, .int .u64 a0_1, .int .u8 a0_2, .bool a0_3, .int .u16 a0_4, .int .u16 a0_5, .string a0_6] 27 (0, 0)) (by (with_reducible repeat (first | refine blk_drewN ?_ _ | refine blk_drew ?_ | refine blk_alloc ?_ _)); exact BK226.out)) : gb247 ≠ gb226)); clear BK226; clear HB; have BK226 := n0_; have HB := n1_; have BK247 := n2_; have GW247 := n3_; have GE247 := n4_; have NB226_247 := n5_; have NB247_226 := n6_; clear n0_ n1_ n2_ n3_ n4_ n5_ n6_; clear hb hbox hg; have hnb41 := NB247_226.out; have hnc41 := NB226_247.out; have hcz42_0 : w40.cell? ⟨gb247, 0, none⟩ = some (.int .u64 0) := (blk_cell BK247.out 0).trans rfl; have hcz42_1 : w40.cell? ⟨gb247, 1, none⟩ = some (.int .u64 0) := (blk_cell BK247.out 1).trans rfl; have hcz42_2 : w40.cell? ⟨gb247, 2, none⟩ = some (.int .u8 0) := (blk_cell BK247.out 2).trans rfl; have hcz42_3 : w40.cell? ⟨gb247, 3, none⟩ = some (.bool false) := (blk_cell BK247.out 3).trans rfl; have hcz42_4 : w40.cell? ⟨gb247, 4, none⟩ = some (.int .u16 0) := (blk_cell BK247.out 4).trans rfl; have hcz42_5 : w40.cell? ⟨gb247, 5, none⟩ = some (.int .u16 0) := (blk_cell BK247.out 5).trans rfl; have hcz42_6 : w40.cell? ⟨gb247, 6, none⟩ = some (.string (⟨#[]⟩ : ByteArray)) := (blk_cell BK247.out 6).trans rfl; have hfz42_0 := blk_frozen BK247.out 0; have hfz42_1 := blk_frozen BK247.out 1; have hfz42_2 := blk_frozen BK247.out 2; have hfz42_3 := blk_frozen BK247.out 3; have hfz42_4 := blk_frozen BK247.out 4; have hfz42_5 := blk_frozen BK247.out 5; have hfz42_6 := blk_frozen BK247.out 6) | ((with_reducible refine gate_callee (f := 13) rfl ?_); refine goesL_ (some 56) rfl rfl Try.func13 (by kernel_rfl) rfl #[.agg #[.int .u64 t239, .int .u64 t240, .int .u8 t241, .bool t242, .int .u16 t243, .int .u16 t244, .string t245]] rfl (by (try simp only [List.map_toArray, List.map_cons, List.map_nil]); first | done | rfl | (simp only [List.length_drop, List.length_take]; rfl)) ?_; (with_reducible refine (tagged_Close.calls kj11 t239 t240 t241 t242 t243 t244 t245 t249 t250 _ A35.out).mono ?_); rintro e w43 ⟨rfl, hb⟩; refine ⟨_, rfl, ?_⟩; have n0_ := Aside0.mk (blk_below (g := gb226) (o := .cells #[.int .u64 a0_0, .int .u64 a0_1, .int .u8 a0_2, .bool a0_3, .int .u16 a0_4, .int .u16 a0_5, .string a0_6] 27 (0, 0)) (by (with_reducible repeat (first | refine blk_drewN ?_ _ | refine blk_drew ?_ | refine blk_alloc ?_ _)); refine blk_far ?_ NB226_247.out _; (with_reducible repeat (first | refine blk_drewN ?_ _ | refine blk_drew ?_ | refine blk_alloc ?_ _)); refine blk_far ?_ NB226_247.out _; (with_reducible repeat (first | refine blk_drewN ?_ _ | refine blk_drew ?_ | refine blk_alloc ?_ _)); refine blk_far ?_ NB226_247.out _; (with_reducible repeat (first | refine blk_drewN ?_ _ | refine blk_drew ?_ | refine blk_alloc ?_ _)); refine blk_far ?_ NB226_247.out _; (with_reducible repeat (first | refine blk_drewN ?_ _ | refine blk_drew ?_ | refine blk_alloc ?_ _)); refine blk_far ?_ NB226_247.out _; (with_reducible repeat (first | refine blk_drewN ?_ _ | refine blk_drew ?_ | refine blk_alloc ?_ _)); refine blk_far ?_ NB226_247.out _; (with_reducible repeat (first | refine blk_drewN ?_ _ | refine blk_drew ?_ | refine blk_alloc ?_ _)); refine blk_far ?_ NB226_247.out _; (with_reducible repeat (first | refine blk_drewN ?_ _ | refine blk_drew ?_ | refine blk_alloc ?_ _)); exact BK226.out) hb); have n1_ := Aside0.mk (blk_below (g := gb247) (o := .cells #[.int .u64 t239, .int .u64 t240, .int .u8 t241, .bool t242, .int .u16 t243, .int .u16 t244, .string t245] 27 (0, 0)) (by (with_reducible repeat (first | refine blk_drewN ?_ _ | refine blk_drew ?_ | refine blk_alloc ?_ _)); refine blk_put (cs := #[.int .u64 t239, .int .u64 t240, .int .u8 t241, .bool t242, .int .u16 t243, .int .u16 t244, .string (⟨#[]⟩ : ByteArray)]) ?_ 6 _ rfl; (with_reducible repeat (first | refine blk_drewN ?_ _ | refine blk_drew ?_ | refine blk_alloc ?_ _)); refine blk_put (cs := #[.int .u64 t239, .int .u64 t240, .int .u8 t241, .bool t242, .int .u16 t243, .int .u16 0, .string (⟨#[]⟩ : ByteArray)]) ?_ 5 _ rfl; (with_reducible repeat (first | refine blk_drewN ?_ _ | refine blk_drew ?_ | refine blk_alloc ?_ _)); refine blk_put (cs := #[.int .u64 t239, .int .u64 t240, .int .u8 t241, .bool t242, .int .u16 0, .int .u16 0, .string (⟨#[]⟩ : ByteArray)]) ?_ 4 _ rfl; (with_reducible repeat (first | refine blk_drewN ?_ _ | refine blk_drew ?_ | refine blk_alloc ?_ _)); refine blk_put (cs := #[.int .u64 t239, .int .u64 t240, .int .u8 t241, .bool false, .int .u16 0, .int .u16 0, .string (⟨#[]⟩ : ByteArray)]) ?_ 3 _ rfl; (with_reducible repeat (first | refine blk_drewN ?_ _ | refine blk_drew ?_ | refine blk_alloc ?_ _)); refine blk_put (cs := #[.int .u64 t239, .int .u64 t240, .int .u8 0, .bool false, .int .u16 0, .int .u16 0, .string (⟨#[]⟩ : ByteArray)]) ?_ 2 _ rfl; (with_reducible repeat (first | refine blk_drewN ?_ _ | refine blk_drew ?_ | refine blk_alloc ?_ _)); refine blk_put (cs := #[.int .u64 t239, .int .u64 0, .int .u8 0, .bool false, .int .u16 0, .int .u16 0, .string (⟨#[]⟩ : ByteArray)]) ?_ 1 _ rfl; (with_reducible repeat (first | refine blk_drewN ?_ _ | refine blk_drew ?_ | refine blk_alloc ?_ _)); refine blk_put (cs := #[.int .u64 0, .int .u64 0, .int .u8 0, .bool false, .int .u16 0, .int .u16 0, .string (⟨#[]⟩ : ByteArray)]) ?_ 0 _ rfl; (with_reducible repeat (first | refine blk_drewN ?_ _ | refine blk_drew ?_ | refine blk_alloc ?_ _)); exact BK247.out) hb); have n2_ := Aside0.mk (below_step (by repeat (first | (with_reducible first | exact HB.out | apply below_alloc | apply pw_below_drewN | apply below_drew1 | refine below_set ?_ GE226.out | refine below_set ?_ GE247.out) | exact HB.out)) hb); clear BK226; clear BK247; clear HB; have BK226 := n0_; have BK247 := n1_; have HB := n2_; clear n0_ n1_ n2_; (try clear hb); (try clear hb2); (try clear hk); (try clear hi)) | ((with_reducible refine gate_callee (f := 9) rfl ?_); refine goesL_ (some 59) rfl rfl Try.func9 (by kernel_rfl) rfl #[] rfl (by (try simp only [List.map_toArray, List.map_cons, List.map_nil]); first | done | rfl | (simp only [List.length_drop, List.length_take]; rfl)) ?_; (with_reducible refine (carousellaw03_Awake.calls kj11  true _ A36.out).mono ?_); rintro e w44 ⟨rfl, hb⟩; refine ⟨_, rfl, ?_⟩; have n0_ := Aside0.mk (blk_below (g := gb226) (o := .cells #[.int .u64 a0_0, .int .u64 a0_1, .int .u8 a0_2, .bool a0_3, .int .u16 a0_4, .int .u16 a0_5, .string a0_6] 27 (0, 0)) (by (with_reducible repeat (first | refine blk_drewN ?_ _ | refine blk_drew ?_ | refine blk_alloc ?_ _)); exact BK226.out) hb); have n1_ := Aside0.mk (blk_below (g := gb247) (o := .cells #[.int .u64 t239, .int .u64 t240, .int .u8 t241, .bool t242, .int .u16 t243, .int .u16 t244, .string t245] 27 (0, 0)) (by (with_reducible repeat (first | refine blk_drewN ?_ _ | refine blk_drew ?_ | refine blk_alloc ?_ _)); exact BK247.out) hb); have n2_ := Aside0.mk (below_step (by repeat (first | (with_reducible first | exact HB.out | apply below_alloc | apply pw_below_drewN | apply below_drew1 | refine below_set ?_ GE226.out | refine below_set ?_ GE247.out) | exact HB.out)) hb); clear BK226; clear BK247; clear HB; have BK226 := n0_; have BK247 := n1_; have HB := n2_; clear n0_ n1_ n2_; (try clear hb); (try clear hb2); (try clear hk); (try clear hi)))
                  go_ret
                  exact ⟨by first | rfl | (simp [errW_none, errW_some] <;> rfl) | (simp [*, errW_none, errW_some] <;> rfl), by repeat (first | (with_reducible first | exact HB.out | apply below_alloc | apply pw_below_drewN | apply below_drew1 | refine below_set ?_ GE226.out | refine below_set ?_ GE247.out) | exact HB.out)⟩
                · rw [if_neg c38] at H
                  have c38b0 : (t250 == 0) = false := beq_eq_false_iff_ne.mpr c38
                  have c38b1 : (t250 != 0) = true := bne_iff_ne.mpr c38
                  obtain rfl := Option.some.inj H
                  go_wp2_with (first | ((with_reducible refine gate_callee (f := 10) rfl ?_); refine goesL_ (some 43) rfl rfl Try.func10 (by kernel_rfl) rfl #[.string a1] rfl (by (try simp only [List.map_toArray, List.map_cons, List.map_nil]); first | done | rfl | (simp only [List.length_drop, List.length_take]; rfl)) ?_; (with_reducible refine (tagged_Open.calls kj11 a1 t239 t240 t241 t242 t243 t244 t245 t246 _ A33.out).mono ?_); rintro e w45 ⟨rfl, hb⟩; refine ⟨_, rfl, ?_⟩; have n0_ := Aside0.mk (blk_below (g := gb226) (o := .cells #[.int .u64 a0_0, .int .u64 a0_1, .int .u8 a0_2, .bool a0_3, .int .u16 a0_4, .int .u16 a0_5, .string a0_6] 27 (0, 0)) (by (with_reducible repeat (first | refine blk_drewN ?_ _ | refine blk_drew ?_ | refine blk_alloc ?_ _)); exact BK226.out) hb); have n1_ := Aside0.mk (below_step (by repeat (first | (with_reducible first | exact HB.out | apply below_alloc | apply pw_below_drewN | apply below_drew1 | refine below_set ?_ GE226.out) | exact HB.out)) hb); clear BK226; clear HB; have BK226 := n0_; have HB := n1_; clear n0_ n1_; (try clear hb); (try clear hb2); (try clear hk); (try clear hi)) | ((with_reducible refine gate_dst (N := 9) rfl ?_); (try (refine gate_guard (by rfl) ?_; dsimp only)); refine box_event ?hg (N := 9) ?hd (cs := #[.int .u64 0, .int .u64 0, .int .u8 0, .bool false, .int .u16 0, .int .u16 0, .string (⟨#[]⟩ : ByteArray)]) (t := 27) ?hr ?_; (case hd => rfl); (case hg => rfl); (case hr => first | (go_simp; done) | (go_simp; rfl)); intro gb247 hg w46 hbox hb; have n0_ := Aside0.mk (blk_below (g := gb226) (o := .cells #[.int .u64 a0_0, .int .u64 a0_1, .int .u8 a0_2, .bool a0_3, .int .u16 a0_4, .int .u16 a0_5, .string a0_6] 27 (0, 0)) (by (with_reducible repeat (first | refine blk_drewN ?_ _ | refine blk_drew ?_ | refine blk_alloc ?_ _)); exact BK226.out) hb); have n1_ := Aside0.mk (below_step (by repeat (first | (with_reducible first | exact HB.out | apply below_alloc | apply pw_below_drewN | apply below_drew1 | refine below_set ?_ GE226.out) | exact HB.out)) hb); have n2_ := Aside0.mk (hbox); have n3_ := Aside0.mk ((by rw [hg]; exact (below_size (by repeat (first | (with_reducible first | exact HB.out | apply below_alloc | apply pw_below_drewN | apply below_drew1 | refine below_set ?_ GE226.out) | exact HB.out))) : w.heap.size ≤ gb247)); have n4_ := Aside0.mk ((by rw [hg]; exact (below_size (by repeat (first | (with_reducible first | exact HB.out | apply below_alloc | apply pw_below_drewN | apply below_drew1 | refine below_set ?_ GE226.out) | exact HB.out))) : w.heap.size ≤ gb247)); have n5_ := Aside0.mk ((by rw [hg]; exact Nat.ne_of_lt (blk_lt (g := gb226) (o := .cells #[.int .u64 a0_0, .int .u64 a0_1, .int .u8 a0_2, .bool a0_3, .int .u16 a0_4, .int .u16 a0_5, .string a0_6] 27 (0, 0)) (by (with_reducible repeat (first | refine blk_drewN ?_ _ | refine blk_drew ?_ | refine blk_alloc ?_ _)); exact BK226.out)) : gb226 ≠ gb247)); have n6_ := Aside0.mk ((by rw [hg]; exact Nat.ne_of_gt (blk_lt (g := gb226) (o := .cells #[.int .u64 a0_0, .int .u64 a0_1, .int .u8 a0_2, .bool a0_3, .int .u16 a0_4, .int .u16 a0_5, .string a0_6] 27 (0, 0)) (by (with_reducible repeat (first | refine blk_drewN ?_ _ | refine blk_drew ?_ | refine blk_alloc ?_ _)); exact BK226.out)) : gb247 ≠ gb226)); clear BK226; clear HB; have BK226 := n0_; have HB := n1_; have BK247 := n2_; have GW247 := n3_; have GE247 := n4_; have NB226_247 := n5_; have NB247_226 := n6_; clear n0_ n1_ n2_ n3_ n4_ n5_ n6_; clear hb hbox hg; have hnb47 := NB247_226.out; have hnc47 := NB226_247.out; have hcz48_0 : w46.cell? ⟨gb247, 0, none⟩ = some (.int .u64 0) := (blk_cell BK247.out 0).trans rfl; have hcz48_1 : w46.cell? ⟨gb247, 1, none⟩ = some (.int .u64 0) := (blk_cell BK247.out 1).trans rfl; have hcz48_2 : w46.cell? ⟨gb247, 2, none⟩ = some (.int .u8 0) := (blk_cell BK247.out 2).trans rfl; have hcz48_3 : w46.cell? ⟨gb247, 3, none⟩ = some (.bool false) := (blk_cell BK247.out 3).trans rfl; have hcz48_4 : w46.cell? ⟨gb247, 4, none⟩ = some (.int .u16 0) := (blk_cell BK247.out 4).trans rfl; have hcz48_5 : w46.cell? ⟨gb247, 5, none⟩ = some (.int .u16 0) := (blk_cell BK247.out 5).trans rfl; have hcz48_6 : w46.cell? ⟨gb247, 6, none⟩ = some (.string (⟨#[]⟩ : ByteArray)) := (blk_cell BK247.out 6).trans rfl; have hfz48_0 := blk_frozen BK247.out 0; have hfz48_1 := blk_frozen BK247.out 1; have hfz48_2 := blk_frozen BK247.out 2; have hfz48_3 := blk_frozen BK247.out 3; have hfz48_4 := blk_frozen BK247.out 4; have hfz48_5 := blk_frozen BK247.out 5; have hfz48_6 := blk_frozen BK247.out 6) | ((with_reducible refine gate_callee (f := 13) rfl ?_); refine goesL_ (some 56) rfl rfl Try.func13 (by kernel_rfl) rfl #[.agg #[.int .u64 t239, .int .u64 t240, .int .u8 t241, .bool t242, .int .u16 t243, .int .u16 t244, .string t245]] rfl (by (try simp only [List.map_toArray, List.map_cons, List.map_nil]); first | done | rfl | (simp only [List.length_drop, List.length_take]; rfl)) ?_; (with_reducible refine (tagged_Close.calls kj11 t239 t240 t241 t242 t243 t244 t245 t249 t250 _ A35.out).mono ?_); rintro e w49 ⟨rfl, hb⟩; refine ⟨_, rfl, ?_⟩; have n0_ := Aside0.mk (blk_below (g := gb226) (o := .cells #[.int .u64 a0_0, .int .u64 a0_1, .int .u8 a0_2, .bool a0_3, .int .u16 a0_4, .int .u16 a0_5, .string a0_6] 27 (0, 0)) (by (with_reducible repeat (first | refine blk_drewN ?_ _ | refine blk_drew ?_ | refine blk_alloc ?_ _)); refine blk_far ?_ NB226_247.out _; (with_reducible repeat (first | refine blk_drewN ?_ _ | refine blk_drew ?_ | refine blk_alloc ?_ _)); refine blk_far ?_ NB226_247.out _; (with_reducible repeat (first | refine blk_drewN ?_ _ | refine blk_drew ?_ | refine blk_alloc ?_ _)); refine blk_far ?_ NB226_247.out _; (with_reducible repeat (first | refine blk_drewN ?_ _ | refine blk_drew ?_ | refine blk_alloc ?_ _)); refine blk_far ?_ NB226_247.out _; (with_reducible repeat (first | refine blk_drewN ?_ _ | refine blk_drew ?_ | refine blk_alloc ?_ _)); refine blk_far ?_ NB226_247.out _; (with_reducible repeat (first | refine blk_drewN ?_ _ | refine blk_drew ?_ | refine blk_alloc ?_ _)); refine blk_far ?_ NB226_247.out _; (with_reducible repeat (first | refine blk_drewN ?_ _ | refine blk_drew ?_ | refine blk_alloc ?_ _)); refine blk_far ?_ NB226_247.out _; (with_reducible repeat (first | refine blk_drewN ?_ _ | refine blk_drew ?_ | refine blk_alloc ?_ _)); exact BK226.out) hb); have n1_ := Aside0.mk (blk_below (g := gb247) (o := .cells #[.int .u64 t239, .int .u64 t240, .int .u8 t241, .bool t242, .int .u16 t243, .int .u16 t244, .string t245] 27 (0, 0)) (by (with_reducible repeat (first | refine blk_drewN ?_ _ | refine blk_drew ?_ | refine blk_alloc ?_ _)); refine blk_put (cs := #[.int .u64 t239, .int .u64 t240, .int .u8 t241, .bool t242, .int .u16 t243, .int .u16 t244, .string (⟨#[]⟩ : ByteArray)]) ?_ 6 _ rfl; (with_reducible repeat (first | refine blk_drewN ?_ _ | refine blk_drew ?_ | refine blk_alloc ?_ _)); refine blk_put (cs := #[.int .u64 t239, .int .u64 t240, .int .u8 t241, .bool t242, .int .u16 t243, .int .u16 0, .string (⟨#[]⟩ : ByteArray)]) ?_ 5 _ rfl; (with_reducible repeat (first | refine blk_drewN ?_ _ | refine blk_drew ?_ | refine blk_alloc ?_ _)); refine blk_put (cs := #[.int .u64 t239, .int .u64 t240, .int .u8 t241, .bool t242, .int .u16 0, .int .u16 0, .string (⟨#[]⟩ : ByteArray)]) ?_ 4 _ rfl; (with_reducible repeat (first | refine blk_drewN ?_ _ | refine blk_drew ?_ | refine blk_alloc ?_ _)); refine blk_put (cs := #[.int .u64 t239, .int .u64 t240, .int .u8 t241, .bool false, .int .u16 0, .int .u16 0, .string (⟨#[]⟩ : ByteArray)]) ?_ 3 _ rfl; (with_reducible repeat (first | refine blk_drewN ?_ _ | refine blk_drew ?_ | refine blk_alloc ?_ _)); refine blk_put (cs := #[.int .u64 t239, .int .u64 t240, .int .u8 0, .bool false, .int .u16 0, .int .u16 0, .string (⟨#[]⟩ : ByteArray)]) ?_ 2 _ rfl; (with_reducible repeat (first | refine blk_drewN ?_ _ | refine blk_drew ?_ | refine blk_alloc ?_ _)); refine blk_put (cs := #[.int .u64 t239, .int .u64 0, .int .u8 0, .bool false, .int .u16 0, .int .u16 0, .string (⟨#[]⟩ : ByteArray)]) ?_ 1 _ rfl; (with_reducible repeat (first | refine blk_drewN ?_ _ | refine blk_drew ?_ | refine blk_alloc ?_ _)); refine blk_put (cs := #[.int .u64 0, .int .u64 0, .int .u8 0, .bool false, .int .u16 0, .int .u16 0, .string (⟨#[]⟩ : ByteArray)]) ?_ 0 _ rfl; (with_reducible repeat (first | refine blk_drewN ?_ _ | refine blk_drew ?_ | refine blk_alloc ?_ _)); exact BK247.out) hb); have n2_ := Aside0.mk (below_step (by repeat (first | (with_reducible first | exact HB.out | apply below_alloc | apply pw_below_drewN | apply below_drew1 | refine below_set ?_ GE226.out | refine below_set ?_ GE247.out) | exact HB.out)) hb); clear BK226; clear BK247; clear HB; have BK226 := n0_; have BK247 := n1_; have HB := n2_; clear n0_ n1_ n2_; (try clear hb); (try clear hb2); (try clear hk); (try clear hi)) | ((with_reducible refine gate_callee (f := 9) rfl ?_); refine goesL_ (some 59) rfl rfl Try.func9 (by kernel_rfl) rfl #[] rfl (by (try simp only [List.map_toArray, List.map_cons, List.map_nil]); first | done | rfl | (simp only [List.length_drop, List.length_take]; rfl)) ?_; (with_reducible refine (carousellaw03_Awake.calls kj11  true _ A36.out).mono ?_); rintro e w50 ⟨rfl, hb⟩; refine ⟨_, rfl, ?_⟩; have n0_ := Aside0.mk (blk_below (g := gb226) (o := .cells #[.int .u64 a0_0, .int .u64 a0_1, .int .u8 a0_2, .bool a0_3, .int .u16 a0_4, .int .u16 a0_5, .string a0_6] 27 (0, 0)) (by (with_reducible repeat (first | refine blk_drewN ?_ _ | refine blk_drew ?_ | refine blk_alloc ?_ _)); exact BK226.out) hb); have n1_ := Aside0.mk (blk_below (g := gb247) (o := .cells #[.int .u64 t239, .int .u64 t240, .int .u8 t241, .bool t242, .int .u16 t243, .int .u16 t244, .string t245] 27 (0, 0)) (by (with_reducible repeat (first | refine blk_drewN ?_ _ | refine blk_drew ?_ | refine blk_alloc ?_ _)); exact BK247.out) hb); have n2_ := Aside0.mk (below_step (by repeat (first | (with_reducible first | exact HB.out | apply below_alloc | apply pw_below_drewN | apply below_drew1 | refine below_set ?_ GE226.out | refine below_set ?_ GE247.out) | exact HB.out)) hb); clear BK226; clear BK247; clear HB; have BK226 := n0_; have BK247 := n1_; have HB := n2_; clear n0_ n1_ n2_; (try clear hb); (try clear hb2); (try clear hk); (try clear hi)))
                  go_ret
                  exact ⟨by first | rfl | (simp [errW_none, errW_some] <;> rfl) | (simp [*, errW_none, errW_some] <;> rfl), by repeat (first | (with_reducible first | exact HB.out | apply below_alloc | apply pw_below_drewN | apply below_drew1 | refine below_set ?_ GE226.out | refine below_set ?_ GE247.out) | exact HB.out)⟩
              · replace c37 := Bool.eq_false_iff.mpr c37
                subst c37
                have H1 : (some false) = some r := by rw [if_neg (show ¬ (false = true) by decide)] at H; exact H
                clear H
                have H := H1
                clear H1
                obtain rfl := Option.some.inj H
                go_wp2_with (first | ((with_reducible refine gate_callee (f := 10) rfl ?_); refine goesL_ (some 43) rfl rfl Try.func10 (by kernel_rfl) rfl #[.string a1] rfl (by (try simp only [List.map_toArray, List.map_cons, List.map_nil]); first | done | rfl | (simp only [List.length_drop, List.length_take]; rfl)) ?_; (with_reducible refine (tagged_Open.calls kj11 a1 t239 t240 t241 t242 t243 t244 t245 t246 _ A33.out).mono ?_); rintro e w51 ⟨rfl, hb⟩; refine ⟨_, rfl, ?_⟩; have n0_ := Aside0.mk (blk_below (g := gb226) (o := .cells #[.int .u64 a0_0, .int .u64 a0_1, .int .u8 a0_2, .bool a0_3, .int .u16 a0_4, .int .u16 a0_5, .string a0_6] 27 (0, 0)) (by (with_reducible repeat (first | refine blk_drewN ?_ _ | refine blk_drew ?_ | refine blk_alloc ?_ _)); exact BK226.out) hb); have n1_ := Aside0.mk (below_step (by repeat (first | (with_reducible first | exact HB.out | apply below_alloc | apply pw_below_drewN | apply below_drew1 | refine below_set ?_ GE226.out) | exact HB.out)) hb); clear BK226; clear HB; have BK226 := n0_; have HB := n1_; clear n0_ n1_; (try clear hb); (try clear hb2); (try clear hk); (try clear hi)) | ((with_reducible refine gate_dst (N := 9) rfl ?_); (try (refine gate_guard (by rfl) ?_; dsimp only)); refine box_event ?hg (N := 9) ?hd (cs := #[.int .u64 0, .int .u64 0, .int .u8 0, .bool false, .int .u16 0, .int .u16 0, .string (⟨#[]⟩ : ByteArray)]) (t := 27) ?hr ?_; (case hd => rfl); (case hg => rfl); (case hr => first | (go_simp; done) | (go_simp; rfl)); intro gb247 hg w52 hbox hb; have n0_ := Aside0.mk (blk_below (g := gb226) (o := .cells #[.int .u64 a0_0, .int .u64 a0_1, .int .u8 a0_2, .bool a0_3, .int .u16 a0_4, .int .u16 a0_5, .string a0_6] 27 (0, 0)) (by (with_reducible repeat (first | refine blk_drewN ?_ _ | refine blk_drew ?_ | refine blk_alloc ?_ _)); exact BK226.out) hb); have n1_ := Aside0.mk (below_step (by repeat (first | (with_reducible first | exact HB.out | apply below_alloc | apply pw_below_drewN | apply below_drew1 | refine below_set ?_ GE226.out) | exact HB.out)) hb); have n2_ := Aside0.mk (hbox); have n3_ := Aside0.mk ((by rw [hg]; exact (below_size (by repeat (first | (with_reducible first | exact HB.out | apply below_alloc | apply pw_below_drewN | apply below_drew1 | refine below_set ?_ GE226.out) | exact HB.out))) : w.heap.size ≤ gb247)); have n4_ := Aside0.mk ((by rw [hg]; exact (below_size (by repeat (first | (with_reducible first | exact HB.out | apply below_alloc | apply pw_below_drewN | apply below_drew1 | refine below_set ?_ GE226.out) | exact HB.out))) : w.heap.size ≤ gb247)); have n5_ := Aside0.mk ((by rw [hg]; exact Nat.ne_of_lt (blk_lt (g := gb226) (o := .cells #[.int .u64 a0_0, .int .u64 a0_1, .int .u8 a0_2, .bool a0_3, .int .u16 a0_4, .int .u16 a0_5, .string a0_6] 27 (0, 0)) (by (with_reducible repeat (first | refine blk_drewN ?_ _ | refine blk_drew ?_ | refine blk_alloc ?_ _)); exact BK226.out)) : gb226 ≠ gb247)); have n6_ := Aside0.mk ((by rw [hg]; exact Nat.ne_of_gt (blk_lt (g := gb226) (o := .cells #[.int .u64 a0_0, .int .u64 a0_1, .int .u8 a0_2, .bool a0_3, .int .u16 a0_4, .int .u16 a0_5, .string a0_6] 27 (0, 0)) (by (with_reducible repeat (first | refine blk_drewN ?_ _ | refine blk_drew ?_ | refine blk_alloc ?_ _)); exact BK226.out)) : gb247 ≠ gb226)); clear BK226; clear HB; have BK226 := n0_; have HB := n1_; have BK247 := n2_; have GW247 := n3_; have GE247 := n4_; have NB226_247 := n5_; have NB247_226 := n6_; clear n0_ n1_ n2_ n3_ n4_ n5_ n6_; clear hb hbox hg; have hnb53 := NB247_226.out; have hnc53 := NB226_247.out; have hcz54_0 : w52.cell? ⟨gb247, 0, none⟩ = some (.int .u64 0) := (blk_cell BK247.out 0).trans rfl; have hcz54_1 : w52.cell? ⟨gb247, 1, none⟩ = some (.int .u64 0) := (blk_cell BK247.out 1).trans rfl; have hcz54_2 : w52.cell? ⟨gb247, 2, none⟩ = some (.int .u8 0) := (blk_cell BK247.out 2).trans rfl; have hcz54_3 : w52.cell? ⟨gb247, 3, none⟩ = some (.bool false) := (blk_cell BK247.out 3).trans rfl; have hcz54_4 : w52.cell? ⟨gb247, 4, none⟩ = some (.int .u16 0) := (blk_cell BK247.out 4).trans rfl; have hcz54_5 : w52.cell? ⟨gb247, 5, none⟩ = some (.int .u16 0) := (blk_cell BK247.out 5).trans rfl; have hcz54_6 : w52.cell? ⟨gb247, 6, none⟩ = some (.string (⟨#[]⟩ : ByteArray)) := (blk_cell BK247.out 6).trans rfl; have hfz54_0 := blk_frozen BK247.out 0; have hfz54_1 := blk_frozen BK247.out 1; have hfz54_2 := blk_frozen BK247.out 2; have hfz54_3 := blk_frozen BK247.out 3; have hfz54_4 := blk_frozen BK247.out 4; have hfz54_5 := blk_frozen BK247.out 5; have hfz54_6 := blk_frozen BK247.out 6) | ((with_reducible refine gate_callee (f := 13) rfl ?_); refine goesL_ (some 56) rfl rfl Try.func13 (by kernel_rfl) rfl #[.agg #[.int .u64 t239, .int .u64 t240, .int .u8 t241, .bool t242, .int .u16 t243, .int .u16 t244, .string t245]] rfl (by (try simp only [List.map_toArray, List.map_cons, List.map_nil]); first | done | rfl | (simp only [List.length_drop, List.length_take]; rfl)) ?_; (with_reducible refine (tagged_Close.calls kj11 t239 t240 t241 t242 t243 t244 t245 t249 t250 _ A35.out).mono ?_); rintro e w55 ⟨rfl, hb⟩; refine ⟨_, rfl, ?_⟩; have n0_ := Aside0.mk (blk_below (g := gb226) (o := .cells #[.int .u64 a0_0, .int .u64 a0_1, .int .u8 a0_2, .bool a0_3, .int .u16 a0_4, .int .u16 a0_5, .string a0_6] 27 (0, 0)) (by (with_reducible repeat (first | refine blk_drewN ?_ _ | refine blk_drew ?_ | refine blk_alloc ?_ _)); refine blk_far ?_ NB226_247.out _; (with_reducible repeat (first | refine blk_drewN ?_ _ | refine blk_drew ?_ | refine blk_alloc ?_ _)); refine blk_far ?_ NB226_247.out _; (with_reducible repeat (first | refine blk_drewN ?_ _ | refine blk_drew ?_ | refine blk_alloc ?_ _)); refine blk_far ?_ NB226_247.out _; (with_reducible repeat (first | refine blk_drewN ?_ _ | refine blk_drew ?_ | refine blk_alloc ?_ _)); refine blk_far ?_ NB226_247.out _; (with_reducible repeat (first | refine blk_drewN ?_ _ | refine blk_drew ?_ | refine blk_alloc ?_ _)); refine blk_far ?_ NB226_247.out _; (with_reducible repeat (first | refine blk_drewN ?_ _ | refine blk_drew ?_ | refine blk_alloc ?_ _)); refine blk_far ?_ NB226_247.out _; (with_reducible repeat (first | refine blk_drewN ?_ _ | refine blk_drew ?_ | refine blk_alloc ?_ _)); refine blk_far ?_ NB226_247.out _; (with_reducible repeat (first | refine blk_drewN ?_ _ | refine blk_drew ?_ | refine blk_alloc ?_ _)); exact BK226.out) hb); have n1_ := Aside0.mk (blk_below (g := gb247) (o := .cells #[.int .u64 t239, .int .u64 t240, .int .u8 t241, .bool t242, .int .u16 t243, .int .u16 t244, .string t245] 27 (0, 0)) (by (with_reducible repeat (first | refine blk_drewN ?_ _ | refine blk_drew ?_ | refine blk_alloc ?_ _)); refine blk_put (cs := #[.int .u64 t239, .int .u64 t240, .int .u8 t241, .bool t242, .int .u16 t243, .int .u16 t244, .string (⟨#[]⟩ : ByteArray)]) ?_ 6 _ rfl; (with_reducible repeat (first | refine blk_drewN ?_ _ | refine blk_drew ?_ | refine blk_alloc ?_ _)); refine blk_put (cs := #[.int .u64 t239, .int .u64 t240, .int .u8 t241, .bool t242, .int .u16 t243, .int .u16 0, .string (⟨#[]⟩ : ByteArray)]) ?_ 5 _ rfl; (with_reducible repeat (first | refine blk_drewN ?_ _ | refine blk_drew ?_ | refine blk_alloc ?_ _)); refine blk_put (cs := #[.int .u64 t239, .int .u64 t240, .int .u8 t241, .bool t242, .int .u16 0, .int .u16 0, .string (⟨#[]⟩ : ByteArray)]) ?_ 4 _ rfl; (with_reducible repeat (first | refine blk_drewN ?_ _ | refine blk_drew ?_ | refine blk_alloc ?_ _)); refine blk_put (cs := #[.int .u64 t239, .int .u64 t240, .int .u8 t241, .bool false, .int .u16 0, .int .u16 0, .string (⟨#[]⟩ : ByteArray)]) ?_ 3 _ rfl; (with_reducible repeat (first | refine blk_drewN ?_ _ | refine blk_drew ?_ | refine blk_alloc ?_ _)); refine blk_put (cs := #[.int .u64 t239, .int .u64 t240, .int .u8 0, .bool false, .int .u16 0, .int .u16 0, .string (⟨#[]⟩ : ByteArray)]) ?_ 2 _ rfl; (with_reducible repeat (first | refine blk_drewN ?_ _ | refine blk_drew ?_ | refine blk_alloc ?_ _)); refine blk_put (cs := #[.int .u64 t239, .int .u64 0, .int .u8 0, .bool false, .int .u16 0, .int .u16 0, .string (⟨#[]⟩ : ByteArray)]) ?_ 1 _ rfl; (with_reducible repeat (first | refine blk_drewN ?_ _ | refine blk_drew ?_ | refine blk_alloc ?_ _)); refine blk_put (cs := #[.int .u64 0, .int .u64 0, .int .u8 0, .bool false, .int .u16 0, .int .u16 0, .string (⟨#[]⟩ : ByteArray)]) ?_ 0 _ rfl; (with_reducible repeat (first | refine blk_drewN ?_ _ | refine blk_drew ?_ | refine blk_alloc ?_ _)); exact BK247.out) hb); have n2_ := Aside0.mk (below_step (by repeat (first | (with_reducible first | exact HB.out | apply below_alloc | apply pw_below_drewN | apply below_drew1 | refine below_set ?_ GE226.out | refine below_set ?_ GE247.out) | exact HB.out)) hb); clear BK226; clear BK247; clear HB; have BK226 := n0_; have BK247 := n1_; have HB := n2_; clear n0_ n1_ n2_; (try clear hb); (try clear hb2); (try clear hk); (try clear hi)) | ((with_reducible refine gate_callee (f := 9) rfl ?_); refine goesL_ (some 59) rfl rfl Try.func9 (by kernel_rfl) rfl #[] rfl (by (try simp only [List.map_toArray, List.map_cons, List.map_nil]); first | done | rfl | (simp only [List.length_drop, List.length_take]; rfl)) ?_; (with_reducible refine (carousellaw03_Awake.calls kj11  false _ A36.out).mono ?_); rintro e w56 ⟨rfl, hb⟩; refine ⟨_, rfl, ?_⟩; have n0_ := Aside0.mk (blk_below (g := gb226) (o := .cells #[.int .u64 a0_0, .int .u64 a0_1, .int .u8 a0_2, .bool a0_3, .int .u16 a0_4, .int .u16 a0_5, .string a0_6] 27 (0, 0)) (by (with_reducible repeat (first | refine blk_drewN ?_ _ | refine blk_drew ?_ | refine blk_alloc ?_ _)); exact BK226.out) hb); have n1_ := Aside0.mk (blk_below (g := gb247) (o := .cells #[.int .u64 t239, .int .u64 t240, .int .u8 t241, .bool t242, .int .u16 t243, .int .u16 t244, .string t245] 27 (0, 0)) (by (with_reducible repeat (first | refine blk_drewN ?_ _ | refine blk_drew ?_ | refine blk_alloc ?_ _)); exact BK247.out) hb); have n2_ := Aside0.mk (below_step (by repeat (first | (with_reducible first | exact HB.out | apply below_alloc | apply pw_below_drewN | apply below_drew1 | refine below_set ?_ GE226.out | refine below_set ?_ GE247.out) | exact HB.out)) hb); clear BK226; clear BK247; clear HB; have BK226 := n0_; have BK247 := n1_; have HB := n2_; clear n0_ n1_ n2_; (try clear hb); (try clear hb2); (try clear hk); (try clear hi)))
                go_ret
                exact ⟨by first | rfl | (simp [errW_none, errW_some] <;> rfl) | (simp [*, errW_none, errW_some] <;> rfl), by repeat (first | (with_reducible first | exact HB.out | apply below_alloc | apply pw_below_drewN | apply below_drew1 | refine below_set ?_ GE226.out | refine below_set ?_ GE247.out) | exact HB.out)⟩
            · rw [if_neg c34] at H
              have c34b0 : (t246 == 0) = false := beq_eq_false_iff_ne.mpr c34
              have c34b1 : (t246 != 0) = true := bne_iff_ne.mpr c34
              replace H := Option.bind_eq_some_iff.mp H
              obtain ⟨t248, A570, H⟩ := H
              replace H : (if t248 = true then (some (t239 == 0 && (t240 == 0 && (t241 == 0 && (!t242 && (t243 == 0 && (t244 == 0 && (t245.toList == ([] : List UInt8))))))))) else (some false)) = some r := H
              have A57 := Aside0.mk A570
              clear A570
              by_cases c58 : t248 = true
              · subst c58
                have H1 : (some (t239 == 0 && (t240 == 0 && (t241 == 0 && (!t242 && (t243 == 0 && (t244 == 0 && (t245.toList == ([] : List UInt8))))))))) = some r := by rw [if_pos rfl] at H; exact H
                clear H
                have H := H1
                clear H1
                obtain rfl := Option.some.inj H
                go_wp2_with (first | ((with_reducible refine gate_callee (f := 10) rfl ?_); refine goesL_ (some 43) rfl rfl Try.func10 (by kernel_rfl) rfl #[.string a1] rfl (by (try simp only [List.map_toArray, List.map_cons, List.map_nil]); first | done | rfl | (simp only [List.length_drop, List.length_take]; rfl)) ?_; (with_reducible refine (tagged_Open.calls kj11 a1 t239 t240 t241 t242 t243 t244 t245 t246 _ A33.out).mono ?_); rintro e w59 ⟨rfl, hb⟩; refine ⟨_, rfl, ?_⟩; have n0_ := Aside0.mk (blk_below (g := gb226) (o := .cells #[.int .u64 a0_0, .int .u64 a0_1, .int .u8 a0_2, .bool a0_3, .int .u16 a0_4, .int .u16 a0_5, .string a0_6] 27 (0, 0)) (by (with_reducible repeat (first | refine blk_drewN ?_ _ | refine blk_drew ?_ | refine blk_alloc ?_ _)); exact BK226.out) hb); have n1_ := Aside0.mk (below_step (by repeat (first | (with_reducible first | exact HB.out | apply below_alloc | apply pw_below_drewN | apply below_drew1 | refine below_set ?_ GE226.out) | exact HB.out)) hb); clear BK226; clear HB; have BK226 := n0_; have HB := n1_; clear n0_ n1_; (try clear hb); (try clear hb2); (try clear hk); (try clear hi)) | ((with_reducible refine gate_dst (N := 9) rfl ?_); (try (refine gate_guard (by rfl) ?_; dsimp only)); refine box_event ?hg (N := 9) ?hd (cs := #[.int .u64 0, .int .u64 0, .int .u8 0, .bool false, .int .u16 0, .int .u16 0, .string (⟨#[]⟩ : ByteArray)]) (t := 27) ?hr ?_; (case hd => rfl); (case hg => rfl); (case hr => first | (go_simp; done) | (go_simp; rfl)); intro gb247 hg w60 hbox hb; have n0_ := Aside0.mk (blk_below (g := gb226) (o := .cells #[.int .u64 a0_0, .int .u64 a0_1, .int .u8 a0_2, .bool a0_3, .int .u16 a0_4, .int .u16 a0_5, .string a0_6] 27 (0, 0)) (by (with_reducible repeat (first | refine blk_drewN ?_ _ | refine blk_drew ?_ | refine blk_alloc ?_ _)); exact BK226.out) hb); have n1_ := Aside0.mk (below_step (by repeat (first | (with_reducible first | exact HB.out | apply below_alloc | apply pw_below_drewN | apply below_drew1 | refine below_set ?_ GE226.out) | exact HB.out)) hb); have n2_ := Aside0.mk (hbox); have n3_ := Aside0.mk ((by rw [hg]; exact (below_size (by repeat (first | (with_reducible first | exact HB.out | apply below_alloc | apply pw_below_drewN | apply below_drew1 | refine below_set ?_ GE226.out) | exact HB.out))) : w.heap.size ≤ gb247)); have n4_ := Aside0.mk ((by rw [hg]; exact (below_size (by repeat (first | (with_reducible first | exact HB.out | apply below_alloc | apply pw_below_drewN | apply below_drew1 | refine below_set ?_ GE226.out) | exact HB.out))) : w.heap.size ≤ gb247)); have n5_ := Aside0.mk ((by rw [hg]; exact Nat.ne_of_lt (blk_lt (g := gb226) (o := .cells #[.int .u64 a0_0, .int .u64 a0_1, .int .u8 a0_2, .bool a0_3, .int .u16 a0_4, .int .u16 a0_5, .string a0_6] 27 (0, 0)) (by (with_reducible repeat (first | refine blk_drewN ?_ _ | refine blk_drew ?_ | refine blk_alloc ?_ _)); exact BK226.out)) : gb226 ≠ gb247)); have n6_ := Aside0.mk ((by rw [hg]; exact Nat.ne_of_gt (blk_lt (g := gb226) (o := .cells #[.int .u64 a0_0, .int .u64 a0_1, .int .u8 a0_2, .bool a0_3, .int .u16 a0_4, .int .u16 a0_5, .string a0_6] 27 (0, 0)) (by (with_reducible repeat (first | refine blk_drewN ?_ _ | refine blk_drew ?_ | refine blk_alloc ?_ _)); exact BK226.out)) : gb247 ≠ gb226)); clear BK226; clear HB; have BK226 := n0_; have HB := n1_; have BK247 := n2_; have GW247 := n3_; have GE247 := n4_; have NB226_247 := n5_; have NB247_226 := n6_; clear n0_ n1_ n2_ n3_ n4_ n5_ n6_; clear hb hbox hg; have hnb61 := NB247_226.out; have hnc61 := NB226_247.out; have hcz62_0 : w60.cell? ⟨gb247, 0, none⟩ = some (.int .u64 0) := (blk_cell BK247.out 0).trans rfl; have hcz62_1 : w60.cell? ⟨gb247, 1, none⟩ = some (.int .u64 0) := (blk_cell BK247.out 1).trans rfl; have hcz62_2 : w60.cell? ⟨gb247, 2, none⟩ = some (.int .u8 0) := (blk_cell BK247.out 2).trans rfl; have hcz62_3 : w60.cell? ⟨gb247, 3, none⟩ = some (.bool false) := (blk_cell BK247.out 3).trans rfl; have hcz62_4 : w60.cell? ⟨gb247, 4, none⟩ = some (.int .u16 0) := (blk_cell BK247.out 4).trans rfl; have hcz62_5 : w60.cell? ⟨gb247, 5, none⟩ = some (.int .u16 0) := (blk_cell BK247.out 5).trans rfl; have hcz62_6 : w60.cell? ⟨gb247, 6, none⟩ = some (.string (⟨#[]⟩ : ByteArray)) := (blk_cell BK247.out 6).trans rfl; have hfz62_0 := blk_frozen BK247.out 0; have hfz62_1 := blk_frozen BK247.out 1; have hfz62_2 := blk_frozen BK247.out 2; have hfz62_3 := blk_frozen BK247.out 3; have hfz62_4 := blk_frozen BK247.out 4; have hfz62_5 := blk_frozen BK247.out 5; have hfz62_6 := blk_frozen BK247.out 6) | ((with_reducible refine gate_callee (f := 9) rfl ?_); refine goesL_ (some 48) rfl rfl Try.func9 (by kernel_rfl) rfl #[] rfl (by (try simp only [List.map_toArray, List.map_cons, List.map_nil]); first | done | rfl | (simp only [List.length_drop, List.length_take]; rfl)) ?_; (with_reducible refine (carousellaw03_Awake.calls kj11  true _ A57.out).mono ?_); rintro e w63 ⟨rfl, hb⟩; refine ⟨_, rfl, ?_⟩; have n0_ := Aside0.mk (blk_below (g := gb226) (o := .cells #[.int .u64 a0_0, .int .u64 a0_1, .int .u8 a0_2, .bool a0_3, .int .u16 a0_4, .int .u16 a0_5, .string a0_6] 27 (0, 0)) (by (with_reducible repeat (first | refine blk_drewN ?_ _ | refine blk_drew ?_ | refine blk_alloc ?_ _)); refine blk_far ?_ NB226_247.out _; (with_reducible repeat (first | refine blk_drewN ?_ _ | refine blk_drew ?_ | refine blk_alloc ?_ _)); refine blk_far ?_ NB226_247.out _; (with_reducible repeat (first | refine blk_drewN ?_ _ | refine blk_drew ?_ | refine blk_alloc ?_ _)); refine blk_far ?_ NB226_247.out _; (with_reducible repeat (first | refine blk_drewN ?_ _ | refine blk_drew ?_ | refine blk_alloc ?_ _)); refine blk_far ?_ NB226_247.out _; (with_reducible repeat (first | refine blk_drewN ?_ _ | refine blk_drew ?_ | refine blk_alloc ?_ _)); refine blk_far ?_ NB226_247.out _; (with_reducible repeat (first | refine blk_drewN ?_ _ | refine blk_drew ?_ | refine blk_alloc ?_ _)); refine blk_far ?_ NB226_247.out _; (with_reducible repeat (first | refine blk_drewN ?_ _ | refine blk_drew ?_ | refine blk_alloc ?_ _)); refine blk_far ?_ NB226_247.out _; (with_reducible repeat (first | refine blk_drewN ?_ _ | refine blk_drew ?_ | refine blk_alloc ?_ _)); exact BK226.out) hb); have n1_ := Aside0.mk (blk_below (g := gb247) (o := .cells #[.int .u64 t239, .int .u64 t240, .int .u8 t241, .bool t242, .int .u16 t243, .int .u16 t244, .string t245] 27 (0, 0)) (by (with_reducible repeat (first | refine blk_drewN ?_ _ | refine blk_drew ?_ | refine blk_alloc ?_ _)); refine blk_put (cs := #[.int .u64 t239, .int .u64 t240, .int .u8 t241, .bool t242, .int .u16 t243, .int .u16 t244, .string (⟨#[]⟩ : ByteArray)]) ?_ 6 _ rfl; (with_reducible repeat (first | refine blk_drewN ?_ _ | refine blk_drew ?_ | refine blk_alloc ?_ _)); refine blk_put (cs := #[.int .u64 t239, .int .u64 t240, .int .u8 t241, .bool t242, .int .u16 t243, .int .u16 0, .string (⟨#[]⟩ : ByteArray)]) ?_ 5 _ rfl; (with_reducible repeat (first | refine blk_drewN ?_ _ | refine blk_drew ?_ | refine blk_alloc ?_ _)); refine blk_put (cs := #[.int .u64 t239, .int .u64 t240, .int .u8 t241, .bool t242, .int .u16 0, .int .u16 0, .string (⟨#[]⟩ : ByteArray)]) ?_ 4 _ rfl; (with_reducible repeat (first | refine blk_drewN ?_ _ | refine blk_drew ?_ | refine blk_alloc ?_ _)); refine blk_put (cs := #[.int .u64 t239, .int .u64 t240, .int .u8 t241, .bool false, .int .u16 0, .int .u16 0, .string (⟨#[]⟩ : ByteArray)]) ?_ 3 _ rfl; (with_reducible repeat (first | refine blk_drewN ?_ _ | refine blk_drew ?_ | refine blk_alloc ?_ _)); refine blk_put (cs := #[.int .u64 t239, .int .u64 t240, .int .u8 0, .bool false, .int .u16 0, .int .u16 0, .string (⟨#[]⟩ : ByteArray)]) ?_ 2 _ rfl; (with_reducible repeat (first | refine blk_drewN ?_ _ | refine blk_drew ?_ | refine blk_alloc ?_ _)); refine blk_put (cs := #[.int .u64 t239, .int .u64 0, .int .u8 0, .bool false, .int .u16 0, .int .u16 0, .string (⟨#[]⟩ : ByteArray)]) ?_ 1 _ rfl; (with_reducible repeat (first | refine blk_drewN ?_ _ | refine blk_drew ?_ | refine blk_alloc ?_ _)); refine blk_put (cs := #[.int .u64 0, .int .u64 0, .int .u8 0, .bool false, .int .u16 0, .int .u16 0, .string (⟨#[]⟩ : ByteArray)]) ?_ 0 _ rfl; (with_reducible repeat (first | refine blk_drewN ?_ _ | refine blk_drew ?_ | refine blk_alloc ?_ _)); exact BK247.out) hb); have n2_ := Aside0.mk (below_step (by repeat (first | (with_reducible first | exact HB.out | apply below_alloc | apply pw_below_drewN | apply below_drew1 | refine below_set ?_ GE226.out | refine below_set ?_ GE247.out) | exact HB.out)) hb); clear BK226; clear BK247; clear HB; have BK226 := n0_; have BK247 := n1_; have HB := n2_; clear n0_ n1_ n2_; (try clear hb); (try clear hb2); (try clear hk); (try clear hi); have hcz64_0 : w63.cell? ⟨gb247, 0, none⟩ = some (.int .u64 t239) := (blk_cell BK247.out 0).trans rfl; have hcz64_1 : w63.cell? ⟨gb247, 1, none⟩ = some (.int .u64 t240) := (blk_cell BK247.out 1).trans rfl; have hcz64_2 : w63.cell? ⟨gb247, 2, none⟩ = some (.int .u8 t241) := (blk_cell BK247.out 2).trans rfl; have hcz64_3 : w63.cell? ⟨gb247, 3, none⟩ = some (.bool t242) := (blk_cell BK247.out 3).trans rfl; have hcz64_4 : w63.cell? ⟨gb247, 4, none⟩ = some (.int .u16 t243) := (blk_cell BK247.out 4).trans rfl; have hcz64_5 : w63.cell? ⟨gb247, 5, none⟩ = some (.int .u16 t244) := (blk_cell BK247.out 5).trans rfl; have hcz64_6 : w63.cell? ⟨gb247, 6, none⟩ = some (.string t245) := (blk_cell BK247.out 6).trans rfl; have hfz64_0 := blk_frozen BK247.out 0; have hfz64_1 := blk_frozen BK247.out 1; have hfz64_2 := blk_frozen BK247.out 2; have hfz64_3 := blk_frozen BK247.out 3; have hfz64_4 := blk_frozen BK247.out 4; have hfz64_5 := blk_frozen BK247.out 5; have hfz64_6 := blk_frozen BK247.out 6))
                go_ret
                exact ⟨by first | rfl | (simp [errW_none, errW_some] <;> rfl) | (simp [*, errW_none, errW_some] <;> rfl), by repeat (first | (with_reducible first | exact HB.out | apply below_alloc | apply pw_below_drewN | apply below_drew1 | refine below_set ?_ GE226.out | refine below_set ?_ GE247.out) | exact HB.out)⟩
              · replace c58 := Bool.eq_false_iff.mpr c58
                subst c58
                have H1 : (some false) = some r := by rw [if_neg (show ¬ (false = true) by decide)] at H; exact H
                clear H
                have H := H1
                clear H1
                obtain rfl := Option.some.inj H
                go_wp2_with (first | ((with_reducible refine gate_callee (f := 10) rfl ?_); refine goesL_ (some 43) rfl rfl Try.func10 (by kernel_rfl) rfl #[.string a1] rfl (by (try simp only [List.map_toArray, List.map_cons, List.map_nil]); first | done | rfl | (simp only [List.length_drop, List.length_take]; rfl)) ?_; (with_reducible refine (tagged_Open.calls kj11 a1 t239 t240 t241 t242 t243 t244 t245 t246 _ A33.out).mono ?_); rintro e w65 ⟨rfl, hb⟩; refine ⟨_, rfl, ?_⟩; have n0_ := Aside0.mk (blk_below (g := gb226) (o := .cells #[.int .u64 a0_0, .int .u64 a0_1, .int .u8 a0_2, .bool a0_3, .int .u16 a0_4, .int .u16 a0_5, .string a0_6] 27 (0, 0)) (by (with_reducible repeat (first | refine blk_drewN ?_ _ | refine blk_drew ?_ | refine blk_alloc ?_ _)); exact BK226.out) hb); have n1_ := Aside0.mk (below_step (by repeat (first | (with_reducible first | exact HB.out | apply below_alloc | apply pw_below_drewN | apply below_drew1 | refine below_set ?_ GE226.out) | exact HB.out)) hb); clear BK226; clear HB; have BK226 := n0_; have HB := n1_; clear n0_ n1_; (try clear hb); (try clear hb2); (try clear hk); (try clear hi)) | ((with_reducible refine gate_dst (N := 9) rfl ?_); (try (refine gate_guard (by rfl) ?_; dsimp only)); refine box_event ?hg (N := 9) ?hd (cs := #[.int .u64 0, .int .u64 0, .int .u8 0, .bool false, .int .u16 0, .int .u16 0, .string (⟨#[]⟩ : ByteArray)]) (t := 27) ?hr ?_; (case hd => rfl); (case hg => rfl); (case hr => first | (go_simp; done) | (go_simp; rfl)); intro gb247 hg w66 hbox hb; have n0_ := Aside0.mk (blk_below (g := gb226) (o := .cells #[.int .u64 a0_0, .int .u64 a0_1, .int .u8 a0_2, .bool a0_3, .int .u16 a0_4, .int .u16 a0_5, .string a0_6] 27 (0, 0)) (by (with_reducible repeat (first | refine blk_drewN ?_ _ | refine blk_drew ?_ | refine blk_alloc ?_ _)); exact BK226.out) hb); have n1_ := Aside0.mk (below_step (by repeat (first | (with_reducible first | exact HB.out | apply below_alloc | apply pw_below_drewN | apply below_drew1 | refine below_set ?_ GE226.out) | exact HB.out)) hb); have n2_ := Aside0.mk (hbox); have n3_ := Aside0.mk ((by rw [hg]; exact (below_size (by repeat (first | (with_reducible first | exact HB.out | apply below_alloc | apply pw_below_drewN | apply below_drew1 | refine below_set ?_ GE226.out) | exact HB.out))) : w.heap.size ≤ gb247)); have n4_ := Aside0.mk ((by rw [hg]; exact (below_size (by repeat (first | (with_reducible first | exact HB.out | apply below_alloc | apply pw_below_drewN | apply below_drew1 | refine below_set ?_ GE226.out) | exact HB.out))) : w.heap.size ≤ gb247)); have n5_ := Aside0.mk ((by rw [hg]; exact Nat.ne_of_lt (blk_lt (g := gb226) (o := .cells #[.int .u64 a0_0, .int .u64 a0_1, .int .u8 a0_2, .bool a0_3, .int .u16 a0_4, .int .u16 a0_5, .string a0_6] 27 (0, 0)) (by (with_reducible repeat (first | refine blk_drewN ?_ _ | refine blk_drew ?_ | refine blk_alloc ?_ _)); exact BK226.out)) : gb226 ≠ gb247)); have n6_ := Aside0.mk ((by rw [hg]; exact Nat.ne_of_gt (blk_lt (g := gb226) (o := .cells #[.int .u64 a0_0, .int .u64 a0_1, .int .u8 a0_2, .bool a0_3, .int .u16 a0_4, .int .u16 a0_5, .string a0_6] 27 (0, 0)) (by (with_reducible repeat (first | refine blk_drewN ?_ _ | refine blk_drew ?_ | refine blk_alloc ?_ _)); exact BK226.out)) : gb247 ≠ gb226)); clear BK226; clear HB; have BK226 := n0_; have HB := n1_; have BK247 := n2_; have GW247 := n3_; have GE247 := n4_; have NB226_247 := n5_; have NB247_226 := n6_; clear n0_ n1_ n2_ n3_ n4_ n5_ n6_; clear hb hbox hg; have hnb67 := NB247_226.out; have hnc67 := NB226_247.out; have hcz68_0 : w66.cell? ⟨gb247, 0, none⟩ = some (.int .u64 0) := (blk_cell BK247.out 0).trans rfl; have hcz68_1 : w66.cell? ⟨gb247, 1, none⟩ = some (.int .u64 0) := (blk_cell BK247.out 1).trans rfl; have hcz68_2 : w66.cell? ⟨gb247, 2, none⟩ = some (.int .u8 0) := (blk_cell BK247.out 2).trans rfl; have hcz68_3 : w66.cell? ⟨gb247, 3, none⟩ = some (.bool false) := (blk_cell BK247.out 3).trans rfl; have hcz68_4 : w66.cell? ⟨gb247, 4, none⟩ = some (.int .u16 0) := (blk_cell BK247.out 4).trans rfl; have hcz68_5 : w66.cell? ⟨gb247, 5, none⟩ = some (.int .u16 0) := (blk_cell BK247.out 5).trans rfl; have hcz68_6 : w66.cell? ⟨gb247, 6, none⟩ = some (.string (⟨#[]⟩ : ByteArray)) := (blk_cell BK247.out 6).trans rfl; have hfz68_0 := blk_frozen BK247.out 0; have hfz68_1 := blk_frozen BK247.out 1; have hfz68_2 := blk_frozen BK247.out 2; have hfz68_3 := blk_frozen BK247.out 3; have hfz68_4 := blk_frozen BK247.out 4; have hfz68_5 := blk_frozen BK247.out 5; have hfz68_6 := blk_frozen BK247.out 6) | ((with_reducible refine gate_callee (f := 9) rfl ?_); refine goesL_ (some 48) rfl rfl Try.func9 (by kernel_rfl) rfl #[] rfl (by (try simp only [List.map_toArray, List.map_cons, List.map_nil]); first | done | rfl | (simp only [List.length_drop, List.length_take]; rfl)) ?_; (with_reducible refine (carousellaw03_Awake.calls kj11  false _ A57.out).mono ?_); rintro e w69 ⟨rfl, hb⟩; refine ⟨_, rfl, ?_⟩; have n0_ := Aside0.mk (blk_below (g := gb226) (o := .cells #[.int .u64 a0_0, .int .u64 a0_1, .int .u8 a0_2, .bool a0_3, .int .u16 a0_4, .int .u16 a0_5, .string a0_6] 27 (0, 0)) (by (with_reducible repeat (first | refine blk_drewN ?_ _ | refine blk_drew ?_ | refine blk_alloc ?_ _)); refine blk_far ?_ NB226_247.out _; (with_reducible repeat (first | refine blk_drewN ?_ _ | refine blk_drew ?_ | refine blk_alloc ?_ _)); refine blk_far ?_ NB226_247.out _; (with_reducible repeat (first | refine blk_drewN ?_ _ | refine blk_drew ?_ | refine blk_alloc ?_ _)); refine blk_far ?_ NB226_247.out _; (with_reducible repeat (first | refine blk_drewN ?_ _ | refine blk_drew ?_ | refine blk_alloc ?_ _)); refine blk_far ?_ NB226_247.out _; (with_reducible repeat (first | refine blk_drewN ?_ _ | refine blk_drew ?_ | refine blk_alloc ?_ _)); refine blk_far ?_ NB226_247.out _; (with_reducible repeat (first | refine blk_drewN ?_ _ | refine blk_drew ?_ | refine blk_alloc ?_ _)); refine blk_far ?_ NB226_247.out _; (with_reducible repeat (first | refine blk_drewN ?_ _ | refine blk_drew ?_ | refine blk_alloc ?_ _)); refine blk_far ?_ NB226_247.out _; (with_reducible repeat (first | refine blk_drewN ?_ _ | refine blk_drew ?_ | refine blk_alloc ?_ _)); exact BK226.out) hb); have n1_ := Aside0.mk (blk_below (g := gb247) (o := .cells #[.int .u64 t239, .int .u64 t240, .int .u8 t241, .bool t242, .int .u16 t243, .int .u16 t244, .string t245] 27 (0, 0)) (by (with_reducible repeat (first | refine blk_drewN ?_ _ | refine blk_drew ?_ | refine blk_alloc ?_ _)); refine blk_put (cs := #[.int .u64 t239, .int .u64 t240, .int .u8 t241, .bool t242, .int .u16 t243, .int .u16 t244, .string (⟨#[]⟩ : ByteArray)]) ?_ 6 _ rfl; (with_reducible repeat (first | refine blk_drewN ?_ _ | refine blk_drew ?_ | refine blk_alloc ?_ _)); refine blk_put (cs := #[.int .u64 t239, .int .u64 t240, .int .u8 t241, .bool t242, .int .u16 t243, .int .u16 0, .string (⟨#[]⟩ : ByteArray)]) ?_ 5 _ rfl; (with_reducible repeat (first | refine blk_drewN ?_ _ | refine blk_drew ?_ | refine blk_alloc ?_ _)); refine blk_put (cs := #[.int .u64 t239, .int .u64 t240, .int .u8 t241, .bool t242, .int .u16 0, .int .u16 0, .string (⟨#[]⟩ : ByteArray)]) ?_ 4 _ rfl; (with_reducible repeat (first | refine blk_drewN ?_ _ | refine blk_drew ?_ | refine blk_alloc ?_ _)); refine blk_put (cs := #[.int .u64 t239, .int .u64 t240, .int .u8 t241, .bool false, .int .u16 0, .int .u16 0, .string (⟨#[]⟩ : ByteArray)]) ?_ 3 _ rfl; (with_reducible repeat (first | refine blk_drewN ?_ _ | refine blk_drew ?_ | refine blk_alloc ?_ _)); refine blk_put (cs := #[.int .u64 t239, .int .u64 t240, .int .u8 0, .bool false, .int .u16 0, .int .u16 0, .string (⟨#[]⟩ : ByteArray)]) ?_ 2 _ rfl; (with_reducible repeat (first | refine blk_drewN ?_ _ | refine blk_drew ?_ | refine blk_alloc ?_ _)); refine blk_put (cs := #[.int .u64 t239, .int .u64 0, .int .u8 0, .bool false, .int .u16 0, .int .u16 0, .string (⟨#[]⟩ : ByteArray)]) ?_ 1 _ rfl; (with_reducible repeat (first | refine blk_drewN ?_ _ | refine blk_drew ?_ | refine blk_alloc ?_ _)); refine blk_put (cs := #[.int .u64 0, .int .u64 0, .int .u8 0, .bool false, .int .u16 0, .int .u16 0, .string (⟨#[]⟩ : ByteArray)]) ?_ 0 _ rfl; (with_reducible repeat (first | refine blk_drewN ?_ _ | refine blk_drew ?_ | refine blk_alloc ?_ _)); exact BK247.out) hb); have n2_ := Aside0.mk (below_step (by repeat (first | (with_reducible first | exact HB.out | apply below_alloc | apply pw_below_drewN | apply below_drew1 | refine below_set ?_ GE226.out | refine below_set ?_ GE247.out) | exact HB.out)) hb); clear BK226; clear BK247; clear HB; have BK226 := n0_; have BK247 := n1_; have HB := n2_; clear n0_ n1_ n2_; (try clear hb); (try clear hb2); (try clear hk); (try clear hi)))
                go_ret
                exact ⟨by first | rfl | (simp [errW_none, errW_some] <;> rfl) | (simp [*, errW_none, errW_some] <;> rfl), by repeat (first | (with_reducible first | exact HB.out | apply below_alloc | apply pw_below_drewN | apply below_drew1 | refine below_set ?_ GE226.out | refine below_set ?_ GE247.out) | exact HB.out)⟩

/-- THE ONE PURE STATEMENT of carousellaw03_TaggedBack: yours. -/
def carousellaw03_TaggedBack.Pure : Prop := ∀ (a0_0 : Int) (a0_1 : Int) (a0_2 : Int) (a0_3 : Bool) (a0_4 : Int) (a0_5 : Int) (a0_6 : ByteArray) (a1 : ByteArray), (Lit.int .u64 a0_0).wf = true → (Lit.int .u64 a0_1).wf = true → (Lit.int .u8 a0_2).wf = true → (Lit.int .u16 a0_4).wf = true → (Lit.int .u16 a0_5).wf = true → a0_6.size ≤ 9223372036854775807 → a1.size ≤ 140737488351232 → ∃ k, carousellaw03_TaggedBack.f k a0_0 a0_1 a0_2 a0_3 a0_4 a0_5 a0_6 a1 = some true
theorem carousellaw03_TaggedBack.walk (P : carousellaw03_TaggedBack.Pure) (a0_0 : Int) (a0_1 : Int) (a0_2 : Int) (a0_3 : Bool) (a0_4 : Int) (a0_5 : Int) (a0_6 : ByteArray) (a1 : ByteArray) (w : World) (w0_0 : (Lit.int .u64 a0_0).wf = true) (w0_1 : (Lit.int .u64 a0_1).wf = true) (w0_2 : (Lit.int .u8 a0_2).wf = true) (w0_3 : (Lit.int .u16 a0_4).wf = true) (w0_4 : (Lit.int .u16 a0_5).wf = true) (w0_5 : a0_6.size ≤ 9223372036854775807) (w1_0 : a1.size ≤ 140737488351232) :
    Calls Try.prog 4 #[.agg #[.int .u64 a0_0, .int .u64 a0_1, .int .u8 a0_2, .bool a0_3, .int .u16 a0_4, .int .u16 a0_5, .string a0_6], .string a1] w fun e w' => e = .returned (.bool true) ∧ Below w.heap.size w w' := by
  obtain ⟨k, h⟩ := P a0_0 a0_1 a0_2 a0_3 a0_4 a0_5 a0_6 a1 w0_0 w0_1 w0_2 w0_3 w0_4 w0_5 w1_0
  refine (carousellaw03_TaggedBack.calls k a0_0 a0_1 a0_2 a0_3 a0_4 a0_5 a0_6 a1 true w h).mono ?_
  rintro e w' ⟨rfl, hd⟩
  exact ⟨rfl, hd⟩

end Go.Proofs.Ytmdaaphjndjakae.PAll
