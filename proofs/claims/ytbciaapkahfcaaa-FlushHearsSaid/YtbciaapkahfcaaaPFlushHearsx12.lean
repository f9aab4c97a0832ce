-- Written by a program of this work, after the translation.
import Derived.Test.YtbciaapkahfcaaaPFlushHearsx0
import Derived.Test.YtbciaapkahfcaaaPFlushHearsx1
import Derived.Test.YtbciaapkahfcaaaPFlushHearsx2
import Derived.Test.YtbciaapkahfcaaaPFlushHearsx9
import Derived.Test.YtbciaapkahfcaaaPFlushHearsx10
import Derived.Test.YtbciaapkahfcaaaPFlushHearsx11
namespace Go.Proofs.Ytbciaapkahfcaaa.PFlushHears
open Go.RowKit Go.Proofs.YtbciaapkahfcaaaW.PrintWords Go.Proofs.YtbciaapkahfcaaaW.PrintLast Go.Proofs.YtbciaapkahfcaaaW.PrintMore
attribute [local go_sem] max2_int min2_int max_two min_two max_three min_three max_four min_four   -- for this text's walks alone
set_option linter.unusedVariables false
set_option linter.unusedSimpArgs false

attribute [local go_sem high] eqA32
/-! ### carousellaw14_FlushHears: function 3 -/
def carousellaw14_FlushHears.l0 : Nat → List (S37) → Int → Int → Bool → Bool → Int → Bool → Bool → Int → Bool → Bool → Int → Bool → Bool → Int → Option (Bool)
  | 0, _, _, _, _, _, _, _, _, _, _, _, _, _, _, _ => none
  | k + 1, x15, x16, x17, x191000, x191001, x191002, x191003, x191004, x191005, x192000, x192001, x192002, x192003, x192004, x192005 => if x17 < x16 then (if 0 ≤ x17 then (if x17 < (x15.length : Int) then ((flush_Pairs_Hear.f x191000 x191001 x191002 x191003 x191004 x191005 ((rd_T37 x15 x17).f0) ((rd_T37 x15 x17).f1.f0) ((rd_T37 x15 x17).f1.f1) ((rd_T37 x15 x17).f1.f2) ((rd_T37 x15 x17).f1.f3) ((rd_T37 x15 x17).f1.f4)).bind fun bt195 => ((carousellaw05_Of.f ((rd_T37 x15 x17).f1.f0) ((rd_T37 x15 x17).f1.f1) ((rd_T37 x15 x17).f1.f2) ((rd_T37 x15 x17).f1.f3) ((rd_T37 x15 x17).f1.f4)).bind fun bt203 => ((carouselref14_Hear.f x192000 x192001 x192002 x192003 x192004 x192005 ((rd_T37 x15 x17).f0) bt203.1 bt203.2.1 bt203.2.2.1 bt203.2.2.2.1 bt203.2.2.2.2).bind fun bt208 => (if (bt195.2.2.2.2.2.2 != bt208.2.2.2.2.2.2) = true then (some false) else ((carousellaw14_Of.f bt195.1 bt195.2.1 bt195.2.2.1 bt195.2.2.2.1 bt195.2.2.2.2.1 bt195.2.2.2.2.2.1).bind fun bt216 => (if ((!(bt216.1 == bt208.1) || (!(bt216.2.1 == bt208.2.1) || (!(bt216.2.2.1 == bt208.2.2.1)))) || ((!(bt216.2.2.2.1 == bt208.2.2.2.1) || (!(bt216.2.2.2.2.1 == bt208.2.2.2.2.1) || (!(bt216.2.2.2.2.2 == bt208.2.2.2.2.2.1)))))) = true then (some false) else (carousellaw14_FlushHears.l0 k x15 x16 (wrap64 (x17 + 1)) bt195.1 bt195.2.1 bt195.2.2.1 bt195.2.2.2.1 bt195.2.2.2.2.1 bt195.2.2.2.2.2.1 bt208.1 bt208.2.1 bt208.2.2.1 bt208.2.2.2.1 bt208.2.2.2.2.1 bt208.2.2.2.2.2.1))))))) else (none)) else (none)) else ((carousellaw14_Awake.f k).bind fun t192 => (some t192))
def carousellaw14_FlushHears.f (k : Nat) (l0 : List (S37)) : Option (Bool) := if (l0.length : Int) > 100 then ((carousellaw14_Awake.f k).bind fun t189 => (some t189)) else (carousellaw14_FlushHears.l0 k l0 (l0.length : Int) 0 false false 0 false false 0 false false 0 false false 0)
theorem carousellaw14_FlushHears.mono_l : ∀ k, (∀ y0 y1 y2 y3 y4 y5 y6 y7 y8 y9 y10 y11 y12 y13 y14, LeO (carousellaw14_FlushHears.l0 k y0 y1 y2 y3 y4 y5 y6 y7 y8 y9 y10 y11 y12 y13 y14) (carousellaw14_FlushHears.l0 (k + 1) y0 y1 y2 y3 y4 y5 y6 y7 y8 y9 y10 y11 y12 y13 y14))
  | 0 => fun _ _ _ _ _ _ _ _ _ _ _ _ _ _ _ r h => by simp [carousellaw14_FlushHears.l0] at h
  | k + 1 => by
    have ih0 := carousellaw14_FlushHears.mono_l k
    · intro y0 y1 y2 y3 y4 y5 y6 y7 y8 y9 y10 y11 y12 y13 y14
      unfold carousellaw14_FlushHears.l0
      repeat' first
      | (with_reducible exact ih0 _ _ _ _ _ _ _ _ _ _ _ _ _ _ _)
      | (with_reducible exact carousellaw14_Awake.mono _)
      | (with_reducible exact LeO.refl _)
      | (with_reducible exact LeO.none _)
      | (with_reducible refine LeO.ite ?_ ?_)
      | (with_reducible refine LeO.bind ?_ (fun _ => ?_))
      | exact ih0 _ _ _ _ _ _ _ _ _ _ _ _ _ _ _
      | exact carousellaw14_Awake.mono _
      | exact LeO.none _
      | refine LeO.ite ?_ ?_
      | refine LeO.bind ?_ (fun _ => ?_)
theorem carousellaw14_FlushHears.mono : ∀ a0 k, LeO (carousellaw14_FlushHears.f k a0) (carousellaw14_FlushHears.f (k + 1) a0) := by
  intro a0 k
  have ih0 := carousellaw14_FlushHears.mono_l k
  unfold carousellaw14_FlushHears.f
  repeat' first
      | (with_reducible exact ih0 _ _ _ _ _ _ _ _ _ _ _ _ _ _ _)
      | (with_reducible exact carousellaw14_Awake.mono _)
      | (with_reducible exact LeO.refl _)
      | (with_reducible exact LeO.none _)
      | (with_reducible refine LeO.ite ?_ ?_)
      | (with_reducible refine LeO.bind ?_ (fun _ => ?_))
      | exact ih0 _ _ _ _ _ _ _ _ _ _ _ _ _ _ _
      | exact carousellaw14_Awake.mono _
      | exact LeO.none _
      | refine LeO.ite ?_ ?_
      | refine LeO.bind ?_ (fun _ => ?_)
def carousellaw14_FlushHears.T9 : Bool × List (List Nat × List Nat) := (true, [([], []), ([], []), ([1], [1]), ([], []), ([3], [3]), ([4], [4]), ([0, 2, 5, 5], [0, 2, 5]), ([6], [6]), ([7], [7]), ([7], [7]), ([], []), ([10, 8, 6, 0, 1, 2, 3, 4, 5, 6, 7, 8, 10], [8, 10]), ([9, 11, 0, 1, 2, 3, 4, 5, 6, 7, 8, 9, 10, 11], [9])])
def carousellaw14_FlushHears.B9 : List Nat := [0, 0, 2, 0, 8, 24, 63, 127, 255, 255, 0, 1535, 4095]
theorem carousellaw14_FlushHears.tab9 : rtab .any (opsOf Try.f3 9) = carousellaw14_FlushHears.T9 := by kernel_rfl
theorem carousellaw14_FlushHears.bits9 : waitsOk carousellaw14_FlushHears.T9.2 carousellaw14_FlushHears.B9 = true := by kernel_rfl
def carousellaw14_FlushHears.T11 : Bool × List (List Nat × List Nat) := (true, [([], []), ([], []), ([0, 1], [0, 1]), ([2], [2]), ([3], [3]), ([4, 3, 3], [3, 4]), ([3], [3]), ([5, 6, 3], [3, 5, 6]), ([3, 7], [3, 7])])
def carousellaw14_FlushHears.B11 : List Nat := [0, 0, 3, 7, 15, 31, 15, 127, 255]
theorem carousellaw14_FlushHears.tab11 : rtab .any (opsOf Try.f3 11) = carousellaw14_FlushHears.T11 := by kernel_rfl
theorem carousellaw14_FlushHears.bits11 : waitsOk carousellaw14_FlushHears.T11.2 carousellaw14_FlushHears.B11 = true := by kernel_rfl
set_option maxHeartbeats 8000000 in
set_option maxRecDepth 100000 in
theorem carousellaw14_FlushHears.calls (k : Nat) (A0 : Option Addr) (c0 : Nat) (l0 : List (S37)) (r : Bool) (w : World) (hr0 : Kd.C k37 w A0 l0.length l0) (hc0 : l0.length ≤ c0) (h : carousellaw14_FlushHears.f k l0 = some r) (hT : r = true) :
    Calls Try.prog 3 #[.slice A0 l0.length c0] w fun e w' => e = .returned (.bool r) ∧ Below w.heap.size w w' := by
  have hu29 := Try.underlying29
  have hu32 := Try.underlying32
  have hu37 := Try.underlying37
  have hu35 := Try.underlying35
  have HR0 := Aside0.mk hr0
  have HC0 := Aside0.mk hc0
  clear hr0 hc0
  have HB := Aside0.mk (Below.refl w.heap.size w)
  have H : (if (l0.length : Int) > 100 then ((carousellaw14_Awake.f k).bind fun t189 => (some t189)) else (carousellaw14_FlushHears.l0 k l0 (l0.length : Int) 0 false false 0 false false 0 false false 0 false false 0)) = some r := h
  clear h
  by_cases c2 : (l0.length : Int) > 100
  · rw [if_pos c2] at H
    have c2b0 : decide (100 < (l0.length : Int)) = true := decide_eq_true c2
    have c2b1 : decide (100 < l0.length) = true := decide_eq_true (by omega)
    clear c2
    replace H := Option.bind_eq_some_iff.mp H
    obtain ⟨t189, A30, H⟩ := H
    replace H : (some t189) = some r := H
    have A3 := Aside0.mk A30
    clear A30
    obtain rfl := Option.some.inj H
    go_enter Try.func3, Try.ntmps3
    go_wp2_with (first | ((with_reducible refine gate_callee (f := 5) rfl ?_); refine goesL_ (some 14) rfl rfl Try.func5 (by kernel_rfl) rfl #[] rfl (by (try simp only [List.map_toArray, List.map_cons, List.map_nil]); first | done | rfl | (simp only [List.length_drop, List.length_take]; rfl)) ?_; (with_reducible refine (carousellaw14_Awake.calls k  t189 _ A3.out).mono ?_); rintro e w4 ⟨rfl, hb⟩; refine ⟨_, rfl, ?_⟩; have n0_ := Aside0.mk (below_step (by repeat (first | (with_reducible first | exact HB.out | apply below_alloc | apply pw_below_drewN | apply below_drew1) | exact HB.out)) hb); clear HB; have HB := n0_; clear n0_; (try clear hb); (try clear hb2); (try clear hk); (try clear hi)))
    go_ret
    exact ⟨by first | rfl | (simp [errW_none, errW_some] <;> rfl) | (simp [*, errW_none, errW_some] <;> rfl), by repeat (first | (with_reducible first | exact HB.out | apply below_alloc | apply pw_below_drewN | apply below_drew1) | exact HB.out)⟩
  · rw [if_neg c2] at H
    have c2b0 : decide (100 < (l0.length : Int)) = false := decide_eq_false c2
    have c2b1 : decide (100 < l0.length) = false := decide_eq_false (by omega)
    clear c2
    have H' := Aside0.mk H
    clear H
    go_enter Try.func3, Try.ntmps3
    go_wp2_with (first | ((with_reducible refine gate_dst (N := 3) rfl ?_); refine box_event ?hg (N := 3) ?hd (cs := #[.bool false, .bool false, .int .u64 0, .bool false, .bool false, .int .u64 0]) (t := 29) ?hr ?_; (case hd => rfl); (case hg => rfl); (case hr => first | (go_simp; done) | (go_simp; rfl)); intro gb190 hg w5 hbox hb; have n0_ := Aside0.mk (below_step (by repeat (first | (with_reducible first | exact HB.out | apply below_alloc | apply pw_below_drewN | apply below_drew1) | exact HB.out)) hb); have n1_ := Aside0.mk (hbox); have n2_ := Aside0.mk ((by rw [hg]; exact (below_size (by repeat (first | (with_reducible first | exact HB.out | apply below_alloc | apply pw_below_drewN | apply below_drew1) | exact HB.out))) : w.heap.size ≤ gb190)); have n3_ := Aside0.mk ((by rw [hg]; exact (below_size (by repeat (first | (with_reducible first | exact HB.out | apply below_alloc | apply pw_below_drewN | apply below_drew1) | exact HB.out))) : w.heap.size ≤ gb190)); clear HB; have HB := n0_; have BK190 := n1_; have GW190 := n2_; have GE190 := n3_; clear n0_ n1_ n2_ n3_; clear hb hbox hg) | ((with_reducible refine gate_dst (N := 4) rfl ?_); refine box_event ?hg (N := 4) ?hd (cs := #[.bool false, .bool false, .int .u64 0, .bool false, .bool false, .int .u64 0]) (t := 32) ?hr ?_; (case hd => rfl); (case hg => rfl); (case hr => first | (go_simp; done) | (go_simp; rfl)); intro gb191 hg w6 hbox hb; have n0_ := Aside0.mk (blk_below (g := gb190) (o := .cells #[.bool false, .bool false, .int .u64 0, .bool false, .bool false, .int .u64 0] 29 (0, 0)) (by (with_reducible repeat (first | refine blk_drewN ?_ _ | refine blk_drew ?_ | refine blk_alloc ?_ _)); exact BK190.out) hb); have n1_ := Aside0.mk (below_step (by repeat (first | (with_reducible first | exact HB.out | apply below_alloc | apply pw_below_drewN | apply below_drew1 | refine below_set ?_ GE190.out) | exact HB.out)) hb); have n2_ := Aside0.mk (hbox); have n3_ := Aside0.mk ((by rw [hg]; exact (below_size (by repeat (first | (with_reducible first | exact HB.out | apply below_alloc | apply pw_below_drewN | apply below_drew1 | refine below_set ?_ GE190.out) | exact HB.out))) : w.heap.size ≤ gb191)); have n4_ := Aside0.mk ((by rw [hg]; exact (below_size (by repeat (first | (with_reducible first | exact HB.out | apply below_alloc | apply pw_below_drewN | apply below_drew1 | refine below_set ?_ GE190.out) | exact HB.out))) : w.heap.size ≤ gb191)); have n5_ := Aside0.mk ((by rw [hg]; exact Nat.ne_of_lt (blk_lt (g := gb190) (o := .cells #[.bool false, .bool false, .int .u64 0, .bool false, .bool false, .int .u64 0] 29 (0, 0)) (by (with_reducible repeat (first | refine blk_drewN ?_ _ | refine blk_drew ?_ | refine blk_alloc ?_ _)); exact BK190.out)) : gb190 ≠ gb191)); have n6_ := Aside0.mk ((by rw [hg]; exact Nat.ne_of_gt (blk_lt (g := gb190) (o := .cells #[.bool false, .bool false, .int .u64 0, .bool false, .bool false, .int .u64 0] 29 (0, 0)) (by (with_reducible repeat (first | refine blk_drewN ?_ _ | refine blk_drew ?_ | refine blk_alloc ?_ _)); exact BK190.out)) : gb191 ≠ gb190)); clear BK190; clear HB; have BK190 := n0_; have HB := n1_; have BK191 := n2_; have GW191 := n3_; have GE191 := n4_; have NB190_191 := n5_; have NB191_190 := n6_; clear n0_ n1_ n2_ n3_ n4_ n5_ n6_; clear hb hbox hg))
    go_loopg [17] k (fun kq v17 w' => ∃ (x17_1 : Int) (x191000_1 : Bool) (x191001_1 : Bool) (x191002_1 : Int) (x191003_1 : Bool) (x191004_1 : Bool) (x191005_1 : Int) (x192000_1 : Bool) (x192001_1 : Bool) (x192002_1 : Int) (x192003_1 : Bool) (x192004_1 : Bool) (x192005_1 : Int), v17 = .int .i64 x17_1 ∧ Aside0 (carousellaw14_FlushHears.l0 kq l0 (l0.length : Int) x17_1 x191000_1 x191001_1 x191002_1 x191003_1 x191004_1 x191005_1 x192000_1 x192001_1 x192002_1 x192003_1 x192004_1 x192005_1 = some r) ∧ Aside0 (kq ≤ k) ∧ Aside0 (w'.heap[gb190]? = some (.cells #[.bool x191000_1, .bool x191001_1, .int .u64 x191002_1, .bool x191003_1, .bool x191004_1, .int .u64 x191005_1] 29 (0, 0))) ∧ Aside0 (w'.heap[gb191]? = some (.cells #[.bool x192000_1, .bool x192001_1, .int .u64 x192002_1, .bool x192003_1, .bool x192004_1, .int .u64 x192005_1] 32 (0, 0))) ∧ Aside0 (Below w.heap.size w w'))
    case atStart => exact ⟨(0), (false), (false), (0), (false), (false), (0), (false), (false), (0), (false), (false), (0), (by first | rfl | (simp; done) | (simp [*]; done)), H', ⟨Nat.le_refl _⟩, ⟨by (with_reducible repeat (first | refine blk_drewN ?_ _ | refine blk_drew ?_ | refine blk_alloc ?_ _)); exact BK190.out⟩, ⟨by (with_reducible repeat (first | refine blk_drewN ?_ _ | refine blk_drew ?_ | refine blk_alloc ?_ _)); exact BK191.out⟩, ⟨by repeat (first | (with_reducible first | exact HB.out | apply below_alloc | apply pw_below_drewN | apply below_drew1 | refine below_set ?_ GE190.out | refine below_set ?_ GE191.out) | exact HB.out)⟩⟩
    case round =>
      clear H'
      try clear c2
      try clear c2b0
      try clear c2b1
      try clear p2
      try clear c3
      try clear c5
      obtain ⟨x17_1, x191000_1, x191001_1, x191002_1, x191003_1, x191004_1, x191005_1, x192000_1, x192001_1, x192002_1, x192003_1, x192004_1, x192005_1, rfl, HA, HK1, BK190, BK191, HB⟩ := hrel
      cases gk with
      | zero => exact absurd HA.out (by simp [carousellaw14_FlushHears.l0])
      | succ k1 =>
        have H := HA.out
        clear HA
        simp only [carousellaw14_FlushHears.l0] at H
        by_cases c7 : x17_1 < (l0.length : Int)
        · rw [if_pos c7] at H
          have c7b0 : decide (x17_1 < (l0.length : Int)) = true := decide_eq_true c7
          clear c7
          by_cases c8 : 0 ≤ x17_1
          · rw [if_pos c8] at H
            have c8b0 : decide (0 ≤ x17_1) = true := decide_eq_true c8
            clear c8
            by_cases c9 : x17_1 < (l0.length : Int)
            · rw [if_pos c9] at H
              have c9b0 : decide (x17_1 < (l0.length : Int)) = true := decide_eq_true c9
              clear c9
              replace H := Option.bind_eq_some_iff.mp H
              obtain ⟨⟨t195, t196, t197, t198, t199, t200, t201⟩, A100, H⟩ := H
              replace H : ((carousellaw05_Of.f ((rd_T37 l0 x17_1).f1.f0) ((rd_T37 l0 x17_1).f1.f1) ((rd_T37 l0 x17_1).f1.f2) ((rd_T37 l0 x17_1).f1.f3) ((rd_T37 l0 x17_1).f1.f4)).bind fun bt203 => ((carouselref14_Hear.f x192000_1 x192001_1 x192002_1 x192003_1 x192004_1 x192005_1 ((rd_T37 l0 x17_1).f0) bt203.1 bt203.2.1 bt203.2.2.1 bt203.2.2.2.1 bt203.2.2.2.2).bind fun bt208 => (if (t201 != bt208.2.2.2.2.2.2) = true then (some false) else ((carousellaw14_Of.f t195 t196 t197 t198 t199 t200).bind fun bt216 => (if ((!(bt216.1 == bt208.1) || (!(bt216.2.1 == bt208.2.1) || (!(bt216.2.2.1 == bt208.2.2.1)))) || ((!(bt216.2.2.2.1 == bt208.2.2.2.1) || (!(bt216.2.2.2.2.1 == bt208.2.2.2.2.1) || (!(bt216.2.2.2.2.2 == bt208.2.2.2.2.2.1)))))) = true then (some false) else (carousellaw14_FlushHears.l0 k1 l0 (l0.length : Int) (wrap64 (x17_1 + 1)) t195 t196 t197 t198 t199 t200 bt208.1 bt208.2.1 bt208.2.2.1 bt208.2.2.2.1 bt208.2.2.2.2.1 bt208.2.2.2.2.2.1)))))) = some r := H
              have A10 := Aside0.mk A100
              clear A100
              replace H := Option.bind_eq_some_iff.mp H
              obtain ⟨⟨t203, t204, t205, t206, t207⟩, A110, H⟩ := H
              replace H : ((carouselref14_Hear.f x192000_1 x192001_1 x192002_1 x192003_1 x192004_1 x192005_1 ((rd_T37 l0 x17_1).f0) t203 t204 t205 t206 t207).bind fun bt208 => (if (t201 != bt208.2.2.2.2.2.2) = true then (some false) else ((carousellaw14_Of.f t195 t196 t197 t198 t199 t200).bind fun bt216 => (if ((!(bt216.1 == bt208.1) || (!(bt216.2.1 == bt208.2.1) || (!(bt216.2.2.1 == bt208.2.2.1)))) || ((!(bt216.2.2.2.1 == bt208.2.2.2.1) || (!(bt216.2.2.2.2.1 == bt208.2.2.2.2.1) || (!(bt216.2.2.2.2.2 == bt208.2.2.2.2.2.1)))))) = true then (some false) else (carousellaw14_FlushHears.l0 k1 l0 (l0.length : Int) (wrap64 (x17_1 + 1)) t195 t196 t197 t198 t199 t200 bt208.1 bt208.2.1 bt208.2.2.1 bt208.2.2.2.1 bt208.2.2.2.2.1 bt208.2.2.2.2.2.1))))) = some r := H
              have A11 := Aside0.mk A110
              clear A110
              replace H := Option.bind_eq_some_iff.mp H
              obtain ⟨⟨t208, t209, t210, t211, t212, t213, t214⟩, A120, H⟩ := H
              replace H : (if (t201 != t214) = true then (some false) else ((carousellaw14_Of.f t195 t196 t197 t198 t199 t200).bind fun bt216 => (if ((!(bt216.1 == t208) || (!(bt216.2.1 == t209) || (!(bt216.2.2.1 == t210)))) || ((!(bt216.2.2.2.1 == t211) || (!(bt216.2.2.2.2.1 == t212) || (!(bt216.2.2.2.2.2 == t213)))))) = true then (some false) else (carousellaw14_FlushHears.l0 k1 l0 (l0.length : Int) (wrap64 (x17_1 + 1)) t195 t196 t197 t198 t199 t200 t208 t209 t210 t211 t212 t213)))) = some r := H
              have A12 := Aside0.mk A120
              clear A120
              by_cases c13 : (t201 != t214) = true
              · rw [if_pos c13] at H
                have c13b0 : (t201 != t214) = true := c13
                (try (have c13b1 : decide (t201 = t214) = false := by simpa using c13))
                (try (have c13b2 : (t201 == t214) = false := by simpa using c13))
                (try (have c13b3 : ¬ (t201 = t214) := by simpa using c13))
                clear c13
                cases (Option.some.inj H).trans hT
              · rw [if_neg c13] at H
                have c13b0 : (t201 != t214) = false := by simpa using c13
                (try (have c13b1 : decide (t201 = t214) = true := by simpa using c13))
                (try (have c13b2 : (t201 == t214) = true := by simpa using c13))
                clear c13
                replace H := Option.bind_eq_some_iff.mp H
                obtain ⟨⟨t216, t217, t218, t219, t220, t221⟩, A140, H⟩ := H
                replace H : (if ((!(t216 == t208) || (!(t217 == t209) || (!(t218 == t210)))) || ((!(t219 == t211) || (!(t220 == t212) || (!(t221 == t213)))))) = true then (some false) else (carousellaw14_FlushHears.l0 k1 l0 (l0.length : Int) (wrap64 (x17_1 + 1)) t195 t196 t197 t198 t199 t200 t208 t209 t210 t211 t212 t213)) = some r := H
                have A14 := Aside0.mk A140
                clear A140
                by_cases c15 : ((!(t216 == t208) || (!(t217 == t209) || (!(t218 == t210)))) || ((!(t219 == t211) || (!(t220 == t212) || (!(t221 == t213)))))) = true
                · rw [if_pos c15] at H
                  have c15b0 : ((!(t216 == t208) || (!(t217 == t209) || (!(t218 == t210)))) || ((!(t219 == t211) || (!(t220 == t212) || (!(t221 == t213)))))) = true := c15
                  clear c15
                  cases (Option.some.inj H).trans hT
                · rw [if_neg c15] at H
                  have c15b0 : ((!(t216 == t208) || (!(t217 == t209) || (!(t218 == t210)))) || ((!(t219 == t211) || (!(t220 == t212) || (!(t221 == t213)))))) = false := by simpa using c15
                  clear c15
                  have H' := Aside0.mk H
                  clear H
                  have p193 : 0 ≤ (x17_1 : Int) := of_decide_eq_true (by first | (with_reducible assumption) | assumption)
                  have q193 : x17_1 < (l0.length : Int) := of_decide_eq_true (by first | (with_reducible assumption) | assumption)
                  obtain ⟨ad193, e193, hx193_0, hx193_1, hx193_2, hx193_3, hx193_4, hx193_5⟩ := at_T37 HR0.out x17_1 p193 q193
                  cases e193
                  replace hx193_0 := (HB.out.cell (World.block_lt_of_cell? w _ hx193_0)).trans hx193_0
                  replace hx193_1 := (HB.out.cell (World.block_lt_of_cell? w _ hx193_1)).trans hx193_1
                  replace hx193_2 := (HB.out.cell (World.block_lt_of_cell? w _ hx193_2)).trans hx193_2
                  replace hx193_3 := (HB.out.cell (World.block_lt_of_cell? w _ hx193_3)).trans hx193_3
                  replace hx193_4 := (HB.out.cell (World.block_lt_of_cell? w _ hx193_4)).trans hx193_4
                  replace hx193_5 := (HB.out.cell (World.block_lt_of_cell? w _ hx193_5)).trans hx193_5
                  replace p193 := eq_true p193
                  replace q193 := eq_true q193
                  try go_wp2_with (first | ((with_reducible refine gate_dst (N := 6) rfl ?_); refine box_event ?hg (N := 6) ?hd (cs := #[.int .i64 0, .int .u8 0, .bool false, .bool false, .bool false, .int .u64 0]) (t := 37) ?hr ?_; (case hd => rfl); (case hg => rfl); (case hr => first | (go_simp; done) | (go_simp; rfl)); intro gb194 hg w16 hbox hb; have n0_ := Aside0.mk (blk_below (g := gb190) (o := .cells #[.bool x191000_1, .bool x191001_1, .int .u64 x191002_1, .bool x191003_1, .bool x191004_1, .int .u64 x191005_1] 29 (0, 0)) (by (with_reducible repeat (first | refine blk_drewN ?_ _ | refine blk_drew ?_ | refine blk_alloc ?_ _)); exact BK190.out) hb); have n1_ := Aside0.mk (blk_below (g := gb191) (o := .cells #[.bool x192000_1, .bool x192001_1, .int .u64 x192002_1, .bool x192003_1, .bool x192004_1, .int .u64 x192005_1] 32 (0, 0)) (by (with_reducible repeat (first | refine blk_drewN ?_ _ | refine blk_drew ?_ | refine blk_alloc ?_ _)); exact BK191.out) hb); have n2_ := Aside0.mk (below_step (by repeat (first | (with_reducible first | exact HB.out | apply below_alloc | apply pw_below_drewN | apply below_drew1 | refine below_set ?_ GE190.out | refine below_set ?_ GE191.out) | exact HB.out)) hb); have n3_ := Aside0.mk (hbox); have n4_ := Aside0.mk ((by rw [hg]; exact (below_size (by repeat (first | (with_reducible first | exact HB.out | apply below_alloc | apply pw_below_drewN | apply below_drew1 | refine below_set ?_ GE190.out | refine below_set ?_ GE191.out) | exact HB.out))) : w.heap.size ≤ gb194)); have n5_ := Aside0.mk ((by rw [hg]; exact (below_size (by repeat (first | (with_reducible first | exact HB.out | apply below_alloc | apply pw_below_drewN | apply below_drew1 | refine below_set ?_ GE190.out | refine below_set ?_ GE191.out) | exact HB.out))) : w.heap.size ≤ gb194)); have n6_ := Aside0.mk ((by rw [hg]; exact Nat.ne_of_lt (blk_lt (g := gb190) (o := .cells #[.bool x191000_1, .bool x191001_1, .int .u64 x191002_1, .bool x191003_1, .bool x191004_1, .int .u64 x191005_1] 29 (0, 0)) (by (with_reducible repeat (first | refine blk_drewN ?_ _ | refine blk_drew ?_ | refine blk_alloc ?_ _)); exact BK190.out)) : gb190 ≠ gb194)); have n7_ := Aside0.mk ((by rw [hg]; exact Nat.ne_of_gt (blk_lt (g := gb190) (o := .cells #[.bool x191000_1, .bool x191001_1, .int .u64 x191002_1, .bool x191003_1, .bool x191004_1, .int .u64 x191005_1] 29 (0, 0)) (by (with_reducible repeat (first | refine blk_drewN ?_ _ | refine blk_drew ?_ | refine blk_alloc ?_ _)); exact BK190.out)) : gb194 ≠ gb190)); have n8_ := Aside0.mk ((by rw [hg]; exact Nat.ne_of_lt (blk_lt (g := gb191) (o := .cells #[.bool x192000_1, .bool x192001_1, .int .u64 x192002_1, .bool x192003_1, .bool x192004_1, .int .u64 x192005_1] 32 (0, 0)) (by (with_reducible repeat (first | refine blk_drewN ?_ _ | refine blk_drew ?_ | refine blk_alloc ?_ _)); exact BK191.out)) : gb191 ≠ gb194)); have n9_ := Aside0.mk ((by rw [hg]; exact Nat.ne_of_gt (blk_lt (g := gb191) (o := .cells #[.bool x192000_1, .bool x192001_1, .int .u64 x192002_1, .bool x192003_1, .bool x192004_1, .int .u64 x192005_1] 32 (0, 0)) (by (with_reducible repeat (first | refine blk_drewN ?_ _ | refine blk_drew ?_ | refine blk_alloc ?_ _)); exact BK191.out)) : gb194 ≠ gb191)); clear BK190; clear BK191; clear HB; have BK190 := n0_; have BK191 := n1_; have HB := n2_; have BK194 := n3_; have GW194 := n4_; have GE194 := n5_; have NB190_194 := n6_; have NB194_190 := n7_; have NB191_194 := n8_; have NB194_191 := n9_; clear n0_ n1_ n2_ n3_ n4_ n5_ n6_ n7_ n8_ n9_; clear hb hbox hg; have hnb17 := NB194_190.out; have hnc17 := NB190_194.out; have hnb18 := NB194_191.out; have hnc18 := NB191_194.out; have hcz19_0 : w16.cell? ⟨gb194, 0, none⟩ = some (.int .i64 0) := (blk_cell BK194.out 0).trans rfl; have hcz19_1 : w16.cell? ⟨gb194, 1, none⟩ = some (.int .u8 0) := (blk_cell BK194.out 1).trans rfl; have hcz19_2 : w16.cell? ⟨gb194, 2, none⟩ = some (.bool false) := (blk_cell BK194.out 2).trans rfl; have hcz19_3 : w16.cell? ⟨gb194, 3, none⟩ = some (.bool false) := (blk_cell BK194.out 3).trans rfl; have hcz19_4 : w16.cell? ⟨gb194, 4, none⟩ = some (.bool false) := (blk_cell BK194.out 4).trans rfl; have hcz19_5 : w16.cell? ⟨gb194, 5, none⟩ = some (.int .u64 0) := (blk_cell BK194.out 5).trans rfl; have hfz19_0 := blk_frozen BK194.out 0; have hfz19_1 := blk_frozen BK194.out 1; have hfz19_2 := blk_frozen BK194.out 2; have hfz19_3 := blk_frozen BK194.out 3; have hfz19_4 := blk_frozen BK194.out 4; have hfz19_5 := blk_frozen BK194.out 5; have hnb20 := NB190_191.out; have hnc20 := NB191_190.out; have hcz21_0 : w16.cell? ⟨gb190, 0, none⟩ = some (.bool x191000_1) := (blk_cell BK190.out 0).trans rfl; have hcz21_1 : w16.cell? ⟨gb190, 1, none⟩ = some (.bool x191001_1) := (blk_cell BK190.out 1).trans rfl; have hcz21_2 : w16.cell? ⟨gb190, 2, none⟩ = some (.int .u64 x191002_1) := (blk_cell BK190.out 2).trans rfl; have hcz21_3 : w16.cell? ⟨gb190, 3, none⟩ = some (.bool x191003_1) := (blk_cell BK190.out 3).trans rfl; have hcz21_4 : w16.cell? ⟨gb190, 4, none⟩ = some (.bool x191004_1) := (blk_cell BK190.out 4).trans rfl; have hcz21_5 : w16.cell? ⟨gb190, 5, none⟩ = some (.int .u64 x191005_1) := (blk_cell BK190.out 5).trans rfl; have hfz21_0 := blk_frozen BK190.out 0; have hfz21_1 := blk_frozen BK190.out 1; have hfz21_2 := blk_frozen BK190.out 2; have hfz21_3 := blk_frozen BK190.out 3; have hfz21_4 := blk_frozen BK190.out 4; have hfz21_5 := blk_frozen BK190.out 5) | ((with_reducible refine gate_callee (f := 6) rfl ?_); refine goesL_ (some 27) rfl rfl Try.func6 (by kernel_rfl) rfl #[.agg #[.bool x191000_1, .bool x191001_1, .int .u64 x191002_1, .bool x191003_1, .bool x191004_1, .int .u64 x191005_1], .int .i64 ((rd_T37 l0 x17_1).f0), .agg #[.int .u8 ((rd_T37 l0 x17_1).f1.f0), .bool ((rd_T37 l0 x17_1).f1.f1), .bool ((rd_T37 l0 x17_1).f1.f2), .bool ((rd_T37 l0 x17_1).f1.f3), .int .u64 ((rd_T37 l0 x17_1).f1.f4)]] rfl (by (try simp only [List.map_toArray, List.map_cons, List.map_nil]); first | done | rfl | (simp only [List.length_drop, List.length_take]; rfl)) ?_; (with_reducible refine (flush_Pairs_Hear.calls x191000_1 x191001_1 x191002_1 x191003_1 x191004_1 x191005_1 ((rd_T37 l0 x17_1).f0) ((rd_T37 l0 x17_1).f1.f0) ((rd_T37 l0 x17_1).f1.f1) ((rd_T37 l0 x17_1).f1.f2) ((rd_T37 l0 x17_1).f1.f3) ((rd_T37 l0 x17_1).f1.f4) t195 t196 t197 t198 t199 t200 t201 _ A10.out).mono ?_); rintro e w22 ⟨rfl, hb⟩; refine ⟨_, rfl, ?_⟩; have n0_ := Aside0.mk (blk_below (g := gb190) (o := .cells #[.bool x191000_1, .bool x191001_1, .int .u64 x191002_1, .bool x191003_1, .bool x191004_1, .int .u64 x191005_1] 29 (0, 0)) (by (with_reducible repeat (first | refine blk_drewN ?_ _ | refine blk_drew ?_ | refine blk_alloc ?_ _)); refine blk_far ?_ NB190_194.out _; (with_reducible repeat (first | refine blk_drewN ?_ _ | refine blk_drew ?_ | refine blk_alloc ?_ _)); refine blk_far ?_ NB190_194.out _; (with_reducible repeat (first | refine blk_drewN ?_ _ | refine blk_drew ?_ | refine blk_alloc ?_ _)); refine blk_far ?_ NB190_194.out _; (with_reducible repeat (first | refine blk_drewN ?_ _ | refine blk_drew ?_ | refine blk_alloc ?_ _)); refine blk_far ?_ NB190_194.out _; (with_reducible repeat (first | refine blk_drewN ?_ _ | refine blk_drew ?_ | refine blk_alloc ?_ _)); refine blk_far ?_ NB190_194.out _; (with_reducible repeat (first | refine blk_drewN ?_ _ | refine blk_drew ?_ | refine blk_alloc ?_ _)); refine blk_far ?_ NB190_194.out _; (with_reducible repeat (first | refine blk_drewN ?_ _ | refine blk_drew ?_ | refine blk_alloc ?_ _)); exact BK190.out) hb); have n1_ := Aside0.mk (blk_below (g := gb191) (o := .cells #[.bool x192000_1, .bool x192001_1, .int .u64 x192002_1, .bool x192003_1, .bool x192004_1, .int .u64 x192005_1] 32 (0, 0)) (by (with_reducible repeat (first | refine blk_drewN ?_ _ | refine blk_drew ?_ | refine blk_alloc ?_ _)); refine blk_far ?_ NB191_194.out _; (with_reducible repeat (first | refine blk_drewN ?_ _ | refine blk_drew ?_ | refine blk_alloc ?_ _)); refine blk_far ?_ NB191_194.out _; (with_reducible repeat (first | refine blk_drewN ?_ _ | refine blk_drew ?_ | refine blk_alloc ?_ _)); refine blk_far ?_ NB191_194.out _; (with_reducible repeat (first | refine blk_drewN ?_ _ | refine blk_drew ?_ | refine blk_alloc ?_ _)); refine blk_far ?_ NB191_194.out _; (with_reducible repeat (first | refine blk_drewN ?_ _ | refine blk_drew ?_ | refine blk_alloc ?_ _)); refine blk_far ?_ NB191_194.out _; (with_reducible repeat (first | refine blk_drewN ?_ _ | refine blk_drew ?_ | refine blk_alloc ?_ _)); refine blk_far ?_ NB191_194.out _; (with_reducible repeat (first | refine blk_drewN ?_ _ | refine blk_drew ?_ | refine blk_alloc ?_ _)); exact BK191.out) hb); have n2_ := Aside0.mk (blk_below (g := gb194) (o := .cells #[.int .i64 ((rd_T37 l0 x17_1).f0), .int .u8 ((rd_T37 l0 x17_1).f1.f0), .bool ((rd_T37 l0 x17_1).f1.f1), .bool ((rd_T37 l0 x17_1).f1.f2), .bool ((rd_T37 l0 x17_1).f1.f3), .int .u64 ((rd_T37 l0 x17_1).f1.f4)] 37 (0, 0)) (by (with_reducible repeat (first | refine blk_drewN ?_ _ | refine blk_drew ?_ | refine blk_alloc ?_ _)); refine blk_put (cs := #[.int .i64 ((rd_T37 l0 x17_1).f0), .int .u8 ((rd_T37 l0 x17_1).f1.f0), .bool ((rd_T37 l0 x17_1).f1.f1), .bool ((rd_T37 l0 x17_1).f1.f2), .bool ((rd_T37 l0 x17_1).f1.f3), .int .u64 0]) ?_ 5 _ rfl; (with_reducible repeat (first | refine blk_drewN ?_ _ | refine blk_drew ?_ | refine blk_alloc ?_ _)); refine blk_put (cs := #[.int .i64 ((rd_T37 l0 x17_1).f0), .int .u8 ((rd_T37 l0 x17_1).f1.f0), .bool ((rd_T37 l0 x17_1).f1.f1), .bool ((rd_T37 l0 x17_1).f1.f2), .bool false, .int .u64 0]) ?_ 4 _ rfl; (with_reducible repeat (first | refine blk_drewN ?_ _ | refine blk_drew ?_ | refine blk_alloc ?_ _)); refine blk_put (cs := #[.int .i64 ((rd_T37 l0 x17_1).f0), .int .u8 ((rd_T37 l0 x17_1).f1.f0), .bool ((rd_T37 l0 x17_1).f1.f1), .bool false, .bool false, .int .u64 0]) ?_ 3 _ rfl; (with_reducible repeat (first | refine blk_drewN ?_ _ | refine blk_drew ?_ | refine blk_alloc ?_ _)); refine blk_put (cs := #[.int .i64 ((rd_T37 l0 x17_1).f0), .int .u8 ((rd_T37 l0 x17_1).f1.f0), .bool false, .bool false, .bool false, .int .u64 0]) ?_ 2 _ rfl; (with_reducible repeat (first | refine blk_drewN ?_ _ | refine blk_drew ?_ | refine blk_alloc ?_ _)); refine blk_put (cs := #[.int .i64 ((rd_T37 l0 x17_1).f0), .int .u8 0, .bool false, .bool false, .bool false, .int .u64 0]) ?_ 1 _ rfl; (with_reducible repeat (first | refine blk_drewN ?_ _ | refine blk_drew ?_ | refine blk_alloc ?_ _)); refine blk_put (cs := #[.int .i64 0, .int .u8 0, .bool false, .bool false, .bool false, .int .u64 0]) ?_ 0 _ rfl; (with_reducible repeat (first | refine blk_drewN ?_ _ | refine blk_drew ?_ | refine blk_alloc ?_ _)); exact BK194.out) hb); have n3_ := Aside0.mk (below_step (by repeat (first | (with_reducible first | exact HB.out | apply below_alloc | apply pw_below_drewN | apply below_drew1 | refine below_set ?_ GE190.out | refine below_set ?_ GE191.out | refine below_set ?_ GE194.out) | exact HB.out)) hb); clear BK190; clear BK191; clear BK194; clear HB; have BK190 := n0_; have BK191 := n1_; have BK194 := n2_; have HB := n3_; clear n0_ n1_ n2_ n3_; (try clear hb); (try clear hb2); (try clear hk); (try clear hi)) | ((with_reducible refine gate_dst (N := 7) rfl ?_); refine box_event ?hg (N := 7) ?hd (cs := #[.bool false, .bool false, .int .u64 0, .bool false, .bool false, .int .u64 0]) (t := 29) ?hr ?_; (case hd => rfl); (case hg => rfl); (case hr => first | (go_simp; done) | (go_simp; rfl)); intro gb202 hg w23 hbox hb; have n0_ := Aside0.mk (blk_below (g := gb190) (o := .cells #[.bool x191000_1, .bool x191001_1, .int .u64 x191002_1, .bool x191003_1, .bool x191004_1, .int .u64 x191005_1] 29 (0, 0)) (by (with_reducible repeat (first | refine blk_drewN ?_ _ | refine blk_drew ?_ | refine blk_alloc ?_ _)); exact BK190.out) hb); have n1_ := Aside0.mk (blk_below (g := gb191) (o := .cells #[.bool x192000_1, .bool x192001_1, .int .u64 x192002_1, .bool x192003_1, .bool x192004_1, .int .u64 x192005_1] 32 (0, 0)) (by (with_reducible repeat (first | refine blk_drewN ?_ _ | refine blk_drew ?_ | refine blk_alloc ?_ _)); exact BK191.out) hb); have n2_ := Aside0.mk (blk_below (g := gb194) (o := .cells #[.int .i64 ((rd_T37 l0 x17_1).f0), .int .u8 ((rd_T37 l0 x17_1).f1.f0), .bool ((rd_T37 l0 x17_1).f1.f1), .bool ((rd_T37 l0 x17_1).f1.f2), .bool ((rd_T37 l0 x17_1).f1.f3), .int .u64 ((rd_T37 l0 x17_1).f1.f4)] 37 (0, 0)) (by (with_reducible repeat (first | refine blk_drewN ?_ _ | refine blk_drew ?_ | refine blk_alloc ?_ _)); exact BK194.out) hb); have n3_ := Aside0.mk (below_step (by repeat (first | (with_reducible first | exact HB.out | apply below_alloc | apply pw_below_drewN | apply below_drew1 | refine below_set ?_ GE190.out | refine below_set ?_ GE191.out | refine below_set ?_ GE194.out) | exact HB.out)) hb); have n4_ := Aside0.mk (hbox); have n5_ := Aside0.mk ((by rw [hg]; exact (below_size (by repeat (first | (with_reducible first | exact HB.out | apply below_alloc | apply pw_below_drewN | apply below_drew1 | refine below_set ?_ GE190.out | refine below_set ?_ GE191.out | refine below_set ?_ GE194.out) | exact HB.out))) : w.heap.size ≤ gb202)); have n6_ := Aside0.mk ((by rw [hg]; exact (below_size (by repeat (first | (with_reducible first | exact HB.out | apply below_alloc | apply pw_below_drewN | apply below_drew1 | refine below_set ?_ GE190.out | refine below_set ?_ GE191.out | refine below_set ?_ GE194.out) | exact HB.out))) : w.heap.size ≤ gb202)); have n7_ := Aside0.mk ((by rw [hg]; exact Nat.ne_of_lt (blk_lt (g := gb190) (o := .cells #[.bool x191000_1, .bool x191001_1, .int .u64 x191002_1, .bool x191003_1, .bool x191004_1, .int .u64 x191005_1] 29 (0, 0)) (by (with_reducible repeat (first | refine blk_drewN ?_ _ | refine blk_drew ?_ | refine blk_alloc ?_ _)); exact BK190.out)) : gb190 ≠ gb202)); have n8_ := Aside0.mk ((by rw [hg]; exact Nat.ne_of_gt (blk_lt (g := gb190) (o := .cells #[.bool x191000_1, .bool x191001_1, .int .u64 x191002_1, .bool x191003_1, .bool x191004_1, .int .u64 x191005_1] 29 (0, 0)) (by (with_reducible repeat (first | refine blk_drewN ?_ _ | refine blk_drew ?_ | refine blk_alloc ?_ _)); exact BK190.out)) : gb202 ≠ gb190)); have n9_ := Aside0.mk ((by rw [hg]; exact Nat.ne_of_lt (blk_lt (g := gb191) (o := .cells #[.bool x192000_1, .bool x192001_1, .int .u64 x192002_1, .bool x192003_1, .bool x192004_1, .int .u64 x192005_1] 32 (0, 0)) (by (with_reducible repeat (first | refine blk_drewN ?_ _ | refine blk_drew ?_ | refine blk_alloc ?_ _)); exact BK191.out)) : gb191 ≠ gb202)); have n10_ := Aside0.mk ((by rw [hg]; exact Nat.ne_of_gt (blk_lt (g := gb191) (o := .cells #[.bool x192000_1, .bool x192001_1, .int .u64 x192002_1, .bool x192003_1, .bool x192004_1, .int .u64 x192005_1] 32 (0, 0)) (by (with_reducible repeat (first | refine blk_drewN ?_ _ | refine blk_drew ?_ | refine blk_alloc ?_ _)); exact BK191.out)) : gb202 ≠ gb191)); have n11_ := Aside0.mk ((by rw [hg]; exact Nat.ne_of_lt (blk_lt (g := gb194) (o := .cells #[.int .i64 ((rd_T37 l0 x17_1).f0), .int .u8 ((rd_T37 l0 x17_1).f1.f0), .bool ((rd_T37 l0 x17_1).f1.f1), .bool ((rd_T37 l0 x17_1).f1.f2), .bool ((rd_T37 l0 x17_1).f1.f3), .int .u64 ((rd_T37 l0 x17_1).f1.f4)] 37 (0, 0)) (by (with_reducible repeat (first | refine blk_drewN ?_ _ | refine blk_drew ?_ | refine blk_alloc ?_ _)); exact BK194.out)) : gb194 ≠ gb202)); have n12_ := Aside0.mk ((by rw [hg]; exact Nat.ne_of_gt (blk_lt (g := gb194) (o := .cells #[.int .i64 ((rd_T37 l0 x17_1).f0), .int .u8 ((rd_T37 l0 x17_1).f1.f0), .bool ((rd_T37 l0 x17_1).f1.f1), .bool ((rd_T37 l0 x17_1).f1.f2), .bool ((rd_T37 l0 x17_1).f1.f3), .int .u64 ((rd_T37 l0 x17_1).f1.f4)] 37 (0, 0)) (by (with_reducible repeat (first | refine blk_drewN ?_ _ | refine blk_drew ?_ | refine blk_alloc ?_ _)); exact BK194.out)) : gb202 ≠ gb194)); clear BK190; clear BK191; clear BK194; clear HB; have BK190 := n0_; have BK191 := n1_; have BK194 := n2_; have HB := n3_; have BK202 := n4_; have GW202 := n5_; have GE202 := n6_; have NB190_202 := n7_; have NB202_190 := n8_; have NB191_202 := n9_; have NB202_191 := n10_; have NB194_202 := n11_; have NB202_194 := n12_; clear n0_ n1_ n2_ n3_ n4_ n5_ n6_ n7_ n8_ n9_ n10_ n11_ n12_; clear hb hbox hg; have hnb24 := NB202_190.out; have hnc24 := NB190_202.out; have hnb25 := NB202_191.out; have hnc25 := NB191_202.out; have hnb26 := NB202_194.out; have hnc26 := NB194_202.out; have hcz27_0 : w23.cell? ⟨gb202, 0, none⟩ = some (.bool false) := (blk_cell BK202.out 0).trans rfl; have hcz27_1 : w23.cell? ⟨gb202, 1, none⟩ = some (.bool false) := (blk_cell BK202.out 1).trans rfl; have hcz27_2 : w23.cell? ⟨gb202, 2, none⟩ = some (.int .u64 0) := (blk_cell BK202.out 2).trans rfl; have hcz27_3 : w23.cell? ⟨gb202, 3, none⟩ = some (.bool false) := (blk_cell BK202.out 3).trans rfl; have hcz27_4 : w23.cell? ⟨gb202, 4, none⟩ = some (.bool false) := (blk_cell BK202.out 4).trans rfl; have hcz27_5 : w23.cell? ⟨gb202, 5, none⟩ = some (.int .u64 0) := (blk_cell BK202.out 5).trans rfl; have hfz27_0 := blk_frozen BK202.out 0; have hfz27_1 := blk_frozen BK202.out 1; have hfz27_2 := blk_frozen BK202.out 2; have hfz27_3 := blk_frozen BK202.out 3; have hfz27_4 := blk_frozen BK202.out 4; have hfz27_5 := blk_frozen BK202.out 5))
                  have n0_ : Aside0 (((((((w23.setCell ⟨gb202, 0, none⟩ (.bool t195)).setCell ⟨gb202, 1, none⟩ (.bool t196)).setCell ⟨gb202, 2, none⟩ (.int .u64 t197)).setCell ⟨gb202, 3, none⟩ (.bool t198)).setCell ⟨gb202, 4, none⟩ (.bool t199)).setCell ⟨gb202, 5, none⟩ (.int .u64 t200)).heap[gb190]? = some (.cells #[.bool x191000_1, .bool x191001_1, .int .u64 x191002_1, .bool x191003_1, .bool x191004_1, .int .u64 x191005_1] 29 (0, 0))) := ⟨by (with_reducible repeat (first | refine blk_drewN ?_ _ | refine blk_drew ?_ | refine blk_alloc ?_ _)); refine blk_far ?_ NB190_202.out _; (with_reducible repeat (first | refine blk_drewN ?_ _ | refine blk_drew ?_ | refine blk_alloc ?_ _)); refine blk_far ?_ NB190_202.out _; (with_reducible repeat (first | refine blk_drewN ?_ _ | refine blk_drew ?_ | refine blk_alloc ?_ _)); refine blk_far ?_ NB190_202.out _; (with_reducible repeat (first | refine blk_drewN ?_ _ | refine blk_drew ?_ | refine blk_alloc ?_ _)); refine blk_far ?_ NB190_202.out _; (with_reducible repeat (first | refine blk_drewN ?_ _ | refine blk_drew ?_ | refine blk_alloc ?_ _)); refine blk_far ?_ NB190_202.out _; (with_reducible repeat (first | refine blk_drewN ?_ _ | refine blk_drew ?_ | refine blk_alloc ?_ _)); refine blk_far ?_ NB190_202.out _; (with_reducible repeat (first | refine blk_drewN ?_ _ | refine blk_drew ?_ | refine blk_alloc ?_ _)); exact BK190.out⟩
                  have n1_ : Aside0 (((((((w23.setCell ⟨gb202, 0, none⟩ (.bool t195)).setCell ⟨gb202, 1, none⟩ (.bool t196)).setCell ⟨gb202, 2, none⟩ (.int .u64 t197)).setCell ⟨gb202, 3, none⟩ (.bool t198)).setCell ⟨gb202, 4, none⟩ (.bool t199)).setCell ⟨gb202, 5, none⟩ (.int .u64 t200)).heap[gb191]? = some (.cells #[.bool x192000_1, .bool x192001_1, .int .u64 x192002_1, .bool x192003_1, .bool x192004_1, .int .u64 x192005_1] 32 (0, 0))) := ⟨by (with_reducible repeat (first | refine blk_drewN ?_ _ | refine blk_drew ?_ | refine blk_alloc ?_ _)); refine blk_far ?_ NB191_202.out _; (with_reducible repeat (first | refine blk_drewN ?_ _ | refine blk_drew ?_ | refine blk_alloc ?_ _)); refine blk_far ?_ NB191_202.out _; (with_reducible repeat (first | refine blk_drewN ?_ _ | refine blk_drew ?_ | refine blk_alloc ?_ _)); refine blk_far ?_ NB191_202.out _; (with_reducible repeat (first | refine blk_drewN ?_ _ | refine blk_drew ?_ | refine blk_alloc ?_ _)); refine blk_far ?_ NB191_202.out _; (with_reducible repeat (first | refine blk_drewN ?_ _ | refine blk_drew ?_ | refine blk_alloc ?_ _)); refine blk_far ?_ NB191_202.out _; (with_reducible repeat (first | refine blk_drewN ?_ _ | refine blk_drew ?_ | refine blk_alloc ?_ _)); refine blk_far ?_ NB191_202.out _; (with_reducible repeat (first | refine blk_drewN ?_ _ | refine blk_drew ?_ | refine blk_alloc ?_ _)); exact BK191.out⟩
                  have n2_ : Aside0 (((((((w23.setCell ⟨gb202, 0, none⟩ (.bool t195)).setCell ⟨gb202, 1, none⟩ (.bool t196)).setCell ⟨gb202, 2, none⟩ (.int .u64 t197)).setCell ⟨gb202, 3, none⟩ (.bool t198)).setCell ⟨gb202, 4, none⟩ (.bool t199)).setCell ⟨gb202, 5, none⟩ (.int .u64 t200)).heap[gb194]? = some (.cells #[.int .i64 ((rd_T37 l0 x17_1).f0), .int .u8 ((rd_T37 l0 x17_1).f1.f0), .bool ((rd_T37 l0 x17_1).f1.f1), .bool ((rd_T37 l0 x17_1).f1.f2), .bool ((rd_T37 l0 x17_1).f1.f3), .int .u64 ((rd_T37 l0 x17_1).f1.f4)] 37 (0, 0))) := ⟨by (with_reducible repeat (first | refine blk_drewN ?_ _ | refine blk_drew ?_ | refine blk_alloc ?_ _)); refine blk_far ?_ NB194_202.out _; (with_reducible repeat (first | refine blk_drewN ?_ _ | refine blk_drew ?_ | refine blk_alloc ?_ _)); refine blk_far ?_ NB194_202.out _; (with_reducible repeat (first | refine blk_drewN ?_ _ | refine blk_drew ?_ | refine blk_alloc ?_ _)); refine blk_far ?_ NB194_202.out _; (with_reducible repeat (first | refine blk_drewN ?_ _ | refine blk_drew ?_ | refine blk_alloc ?_ _)); refine blk_far ?_ NB194_202.out _; (with_reducible repeat (first | refine blk_drewN ?_ _ | refine blk_drew ?_ | refine blk_alloc ?_ _)); refine blk_far ?_ NB194_202.out _; (with_reducible repeat (first | refine blk_drewN ?_ _ | refine blk_drew ?_ | refine blk_alloc ?_ _)); refine blk_far ?_ NB194_202.out _; (with_reducible repeat (first | refine blk_drewN ?_ _ | refine blk_drew ?_ | refine blk_alloc ?_ _)); exact BK194.out⟩
                  have n3_ : Aside0 (((((((w23.setCell ⟨gb202, 0, none⟩ (.bool t195)).setCell ⟨gb202, 1, none⟩ (.bool t196)).setCell ⟨gb202, 2, none⟩ (.int .u64 t197)).setCell ⟨gb202, 3, none⟩ (.bool t198)).setCell ⟨gb202, 4, none⟩ (.bool t199)).setCell ⟨gb202, 5, none⟩ (.int .u64 t200)).heap[gb202]? = some (.cells #[.bool t195, .bool t196, .int .u64 t197, .bool t198, .bool t199, .int .u64 t200] 29 (0, 0))) := ⟨by (with_reducible repeat (first | refine blk_drewN ?_ _ | refine blk_drew ?_ | refine blk_alloc ?_ _)); refine blk_put (cs := #[.bool t195, .bool t196, .int .u64 t197, .bool t198, .bool t199, .int .u64 0]) ?_ 5 _ rfl; (with_reducible repeat (first | refine blk_drewN ?_ _ | refine blk_drew ?_ | refine blk_alloc ?_ _)); refine blk_put (cs := #[.bool t195, .bool t196, .int .u64 t197, .bool t198, .bool false, .int .u64 0]) ?_ 4 _ rfl; (with_reducible repeat (first | refine blk_drewN ?_ _ | refine blk_drew ?_ | refine blk_alloc ?_ _)); refine blk_put (cs := #[.bool t195, .bool t196, .int .u64 t197, .bool false, .bool false, .int .u64 0]) ?_ 3 _ rfl; (with_reducible repeat (first | refine blk_drewN ?_ _ | refine blk_drew ?_ | refine blk_alloc ?_ _)); refine blk_put (cs := #[.bool t195, .bool t196, .int .u64 0, .bool false, .bool false, .int .u64 0]) ?_ 2 _ rfl; (with_reducible repeat (first | refine blk_drewN ?_ _ | refine blk_drew ?_ | refine blk_alloc ?_ _)); refine blk_put (cs := #[.bool t195, .bool false, .int .u64 0, .bool false, .bool false, .int .u64 0]) ?_ 1 _ rfl; (with_reducible repeat (first | refine blk_drewN ?_ _ | refine blk_drew ?_ | refine blk_alloc ?_ _)); refine blk_put (cs := #[.bool false, .bool false, .int .u64 0, .bool false, .bool false, .int .u64 0]) ?_ 0 _ rfl; (with_reducible repeat (first | refine blk_drewN ?_ _ | refine blk_drew ?_ | refine blk_alloc ?_ _)); exact BK202.out⟩
                  have n4_ : Aside0 (Below w.heap.size w ((((((w23.setCell ⟨gb202, 0, none⟩ (.bool t195)).setCell ⟨gb202, 1, none⟩ (.bool t196)).setCell ⟨gb202, 2, none⟩ (.int .u64 t197)).setCell ⟨gb202, 3, none⟩ (.bool t198)).setCell ⟨gb202, 4, none⟩ (.bool t199)).setCell ⟨gb202, 5, none⟩ (.int .u64 t200))) := ⟨by repeat (first | (with_reducible first | exact HB.out | apply below_alloc | apply pw_below_drewN | apply below_drew1 | refine below_set ?_ GE190.out | refine below_set ?_ GE191.out | refine below_set ?_ GE194.out | refine below_set ?_ GE202.out) | exact HB.out)⟩
                  (try clear BK190)
                  (try clear BK191)
                  (try clear BK194)
                  (try clear BK202)
                  (try clear HB)
                  generalize ((((((w23.setCell ⟨gb202, 0, none⟩ (.bool t195)).setCell ⟨gb202, 1, none⟩ (.bool t196)).setCell ⟨gb202, 2, none⟩ (.int .u64 t197)).setCell ⟨gb202, 3, none⟩ (.bool t198)).setCell ⟨gb202, 4, none⟩ (.bool t199)).setCell ⟨gb202, 5, none⟩ (.int .u64 t200)) = w28 at n0_ n1_ n2_ n3_ n4_ ⊢
                  have BK190 := n0_
                  have BK191 := n1_
                  have BK194 := n2_
                  have BK202 := n3_
                  have HB := n4_
                  clear n0_ n1_ n2_ n3_ n4_
                  have n0_ := Aside0.mk (blk_drew BK190.out)
                  have n1_ := Aside0.mk (blk_drew BK191.out)
                  have n2_ := Aside0.mk (blk_drew BK194.out)
                  have n3_ := Aside0.mk (blk_drew BK202.out)
                  have n4_ := Aside0.mk (below_drew1 HB.out)
                  clear BK190
                  clear BK191
                  clear BK194
                  clear BK202
                  clear HB
                  have BK190 := n0_
                  have BK191 := n1_
                  have BK194 := n2_
                  have BK202 := n3_
                  have HB := n4_
                  clear n0_ n1_ n2_ n3_ n4_
                  refine start_ (n := 13) (S := fun w' => w'.cell? ⟨gb191, 0, none⟩ = some (.bool x192000_1) ∧ w'.cell? ⟨gb191, 1, none⟩ = some (.bool x192001_1) ∧ w'.cell? ⟨gb191, 2, none⟩ = some (.int .u64 x192002_1) ∧ w'.cell? ⟨gb191, 3, none⟩ = some (.bool x192003_1) ∧ w'.cell? ⟨gb191, 4, none⟩ = some (.bool x192004_1) ∧ w'.cell? ⟨gb191, 5, none⟩ = some (.int .u64 x192005_1) ∧ w'.cell? ⟨gb194, 0, none⟩ = some (.int .i64 ((rd_T37 l0 x17_1).f0)) ∧ w'.cell? ⟨gb194, 1, none⟩ = some (.int .u8 ((rd_T37 l0 x17_1).f1.f0)) ∧ w'.cell? ⟨gb194, 2, none⟩ = some (.bool ((rd_T37 l0 x17_1).f1.f1)) ∧ w'.cell? ⟨gb194, 3, none⟩ = some (.bool ((rd_T37 l0 x17_1).f1.f2)) ∧ w'.cell? ⟨gb194, 4, none⟩ = some (.bool ((rd_T37 l0 x17_1).f1.f3)) ∧ w'.cell? ⟨gb194, 5, none⟩ = some (.int .u64 ((rd_T37 l0 x17_1).f1.f4))) (ds := []) #[false, false, false, false, false, false, false, false, false, false, false, false, false] (by kernel_rfl) rfl rfl ⟨(blk_cell BK191.out 0).trans rfl, (blk_cell BK191.out 1).trans rfl, (blk_cell BK191.out 2).trans rfl, (blk_cell BK191.out 3).trans rfl, (blk_cell BK191.out 4).trans rfl, (blk_cell BK191.out 5).trans rfl, (blk_cell BK194.out 0).trans rfl, (blk_cell BK194.out 1).trans rfl, (blk_cell BK194.out 2).trans rfl, (blk_cell BK194.out 3).trans rfl, (blk_cell BK194.out 4).trans rfl, (blk_cell BK194.out 5).trans rfl⟩ (fun hHeld => ?_); refine with_tabW carousellaw14_FlushHears.tab9 carousellaw14_FlushHears.bits9 (fun HT_ HW_ => ?_)
                  generalize w28.drew = w29 at BK190 BK191 BK194 BK202 HB hHeld ⊢
                  refine pure_ (i := 1) (N := some 32) (v := ?_) (a' := ?_) #[false, true, false, false, false, false, false, false, false, false, false, false, false] rfl rfl (any_of HT_.out (by kernel_rfl)) (fun _ _ _ h => h) (Or.inl ⟨by rfl, ?_⟩) ?_ ?_
                  rotate_left
                  · intro w'
                    go_simp
                    with_reducible rfl
                  rotate_left
                  · simp only [Act.put, List.setIfInBounds_toArray, List.set_cons_zero, List.set_cons_succ, i64_w, i32_w]
                    rfl
                  refine pure_ (i := 3) (N := some 34) (v := ?_) (a' := ?_) #[false, true, false, true, false, false, false, false, false, false, false, false, false] rfl rfl (any_of HT_.out (by kernel_rfl)) (fun _ _ _ h => h) (Or.inl ⟨by rfl, ?_⟩) ?_ ?_
                  rotate_left
                  · intro w'
                    go_simp
                    with_reducible rfl
                  rotate_left
                  · simp only [Act.put, List.setIfInBounds_toArray, List.set_cons_zero, List.set_cons_succ, i64_w, i32_w]
                    rfl
                  refine take_ (i := 0) (N := some 31) (v := ?_) (a' := ?_) #[true, true, false, true, false, false, false, false, false, false, false, false, false] rfl rfl (take_ofW HT_.out HW_.out (by kernel_rfl)) (fun _ _ _ h => h) (Or.inl ⟨by rfl, ?_⟩) hHeld ?_ ?_
                  rotate_left
                  · rintro w' ⟨s0, s1, s2, s3, s4, s5, s6, s7, s8, s9, s10, s11⟩
                    go_simp
                    with_reducible rfl
                  rotate_left
                  · simp only [Act.put, List.setIfInBounds_toArray, List.set_cons_zero, List.set_cons_succ, i64_w, i32_w]
                    rfl
                  refine take_ (i := 2) (N := some 33) (v := ?_) (a' := ?_) #[true, true, true, true, false, false, false, false, false, false, false, false, false] rfl rfl (take_ofW HT_.out HW_.out (by kernel_rfl)) (fun _ _ _ h => h) (Or.inl ⟨by rfl, ?_⟩) hHeld ?_ ?_
                  rotate_left
                  · rintro w' ⟨s0, s1, s2, s3, s4, s5, s6, s7, s8, s9, s10, s11⟩
                    go_simp
                    with_reducible rfl
                  rotate_left
                  · simp only [Act.put, List.setIfInBounds_toArray, List.set_cons_zero, List.set_cons_succ, i64_w, i32_w]
                    rfl
                  refine take_ (i := 4) (N := some 35) (v := ?_) (a' := ?_) #[true, true, true, true, true, false, false, false, false, false, false, false, false] rfl rfl (take_ofW HT_.out HW_.out (by kernel_rfl)) (fun _ _ _ h => h) (Or.inl ⟨by rfl, ?_⟩) hHeld ?_ ?_
                  rotate_left
                  · rintro w' ⟨s0, s1, s2, s3, s4, s5, s6, s7, s8, s9, s10, s11⟩
                    go_simp
                    with_reducible rfl
                  rotate_left
                  · simp only [Act.put, List.setIfInBounds_toArray, List.set_cons_zero, List.set_cons_succ, i64_w, i32_w]
                    rfl
                  refine join_ (σ := Nat) 2 #[true, true, true, true, true, true, true, true, true, true, true, false, false] (fun s_ => [(36, .agg #[.int .u8 t203, .bool t204, .bool t205, .bool t206, .int .u64 t207]), (37, .tuple #[.agg #[.bool t208, .bool t209, .int .u64 t210, .bool t211, .bool t212, .int .u64 t213], .bool t214]), (9, .pointer (some ⟨s_, 0, none⟩)), (30, .tuple #[.agg #[.bool t208, .bool t209, .int .u64 t210, .bool t211, .bool t212, .int .u64 t213], .bool t214]), (38, .agg #[.bool t208, .bool t209, .int .u64 t210, .bool t211, .bool t212, .int .u64 t213]), (39, .bool t214)]) (fun s_ w' => (w'.cell? ⟨gb191, 0, none⟩ = some (.bool x192000_1) ∧ w'.cell? ⟨gb191, 1, none⟩ = some (.bool x192001_1) ∧ w'.cell? ⟨gb191, 2, none⟩ = some (.int .u64 x192002_1) ∧ w'.cell? ⟨gb191, 3, none⟩ = some (.bool x192003_1) ∧ w'.cell? ⟨gb191, 4, none⟩ = some (.bool x192004_1) ∧ w'.cell? ⟨gb191, 5, none⟩ = some (.int .u64 x192005_1) ∧ w'.cell? ⟨gb194, 0, none⟩ = some (.int .i64 ((rd_T37 l0 x17_1).f0)) ∧ w'.cell? ⟨gb194, 1, none⟩ = some (.int .u8 ((rd_T37 l0 x17_1).f1.f0)) ∧ w'.cell? ⟨gb194, 2, none⟩ = some (.bool ((rd_T37 l0 x17_1).f1.f1)) ∧ w'.cell? ⟨gb194, 3, none⟩ = some (.bool ((rd_T37 l0 x17_1).f1.f2)) ∧ w'.cell? ⟨gb194, 4, none⟩ = some (.bool ((rd_T37 l0 x17_1).f1.f3)) ∧ w'.cell? ⟨gb194, 5, none⟩ = some (.int .u64 ((rd_T37 l0 x17_1).f1.f4))) ∧ (w'.heap[gb190]? = some (.cells #[.bool x191000_1, .bool x191001_1, .int .u64 x191002_1, .bool x191003_1, .bool x191004_1, .int .u64 x191005_1] 29 (0, 0))) ∧ (w'.heap[gb191]? = some (.cells #[.bool x192000_1, .bool x192001_1, .int .u64 x192002_1, .bool x192003_1, .bool x192004_1, .int .u64 x192005_1] 32 (0, 0))) ∧ (w'.heap[gb194]? = some (.cells #[.int .i64 ((rd_T37 l0 x17_1).f0), .int .u8 ((rd_T37 l0 x17_1).f1.f0), .bool ((rd_T37 l0 x17_1).f1.f1), .bool ((rd_T37 l0 x17_1).f1.f2), .bool ((rd_T37 l0 x17_1).f1.f3), .int .u64 ((rd_T37 l0 x17_1).f1.f4)] 37 (0, 0))) ∧ (w'.heap[gb202]? = some (.cells #[.bool t195, .bool t196, .int .u64 t197, .bool t198, .bool t199, .int .u64 t200] 29 (0, 0))) ∧ (w'.heap[s_]? = some (.cells #[.bool false, .bool false, .int .u64 0, .bool false, .bool false, .int .u64 0] 32 (0, 0))) ∧ (w.heap.size ≤ s_) ∧ (w.heap.size ≤ s_) ∧ (gb190 ≠ s_) ∧ (s_ ≠ gb190) ∧ (gb191 ≠ s_) ∧ (s_ ≠ gb191) ∧ (gb194 ≠ s_) ∧ (s_ ≠ gb194) ∧ (gb202 ≠ s_) ∧ (s_ ≠ gb202) ∧ (Below w.heap.size w w')) ?_ ?_
                  rotate_left
                  · intro hCont
                    refine two_ (i := 5) (j := 10) (Ni := some 36) (Nj := some 9) #[true, true, true, true, true, true, false, false, false, false, false, false, false] #[true, true, true, true, true, false, false, false, false, false, true, false, false] rfl rfl rfl rfl (two_of HT_.out (by kernel_rfl)) (by decide) (by decide) (fun K hK => ?_) (fun K hK => ?_)
                    · skip
                      refine goes_ Try.func8 (by kernel_rfl) rfl #[.agg #[.int .u8 ((rd_T37 l0 x17_1).f1.f0), .bool ((rd_T37 l0 x17_1).f1.f1), .bool ((rd_T37 l0 x17_1).f1.f2), .bool ((rd_T37 l0 x17_1).f1.f3), .int .u64 ((rd_T37 l0 x17_1).f1.f4)]] (by rfl) rfl rfl (by (try simp only [List.map_toArray, List.map_cons, List.map_nil]); first | done | rfl | (simp only [List.length_drop, List.length_take]; rfl)) ?_
                      with_reducible refine (carousellaw05_Of.calls ((rd_T37 l0 x17_1).f1.f0) ((rd_T37 l0 x17_1).f1.f1) ((rd_T37 l0 x17_1).f1.f2) ((rd_T37 l0 x17_1).f1.f3) ((rd_T37 l0 x17_1).f1.f4) t203 t204 t205 t206 t207 _ A11.out).mono ?_
                      rintro e w30 ⟨rfl, hb⟩
                      refine ⟨_, rfl, ?_⟩
                      have n0_ := Aside0.mk (blk_below (g := gb190) (o := .cells #[.bool x191000_1, .bool x191001_1, .int .u64 x191002_1, .bool x191003_1, .bool x191004_1, .int .u64 x191005_1] 29 (0, 0)) (by (with_reducible repeat (first | refine blk_drewN ?_ _ | refine blk_drew ?_ | refine blk_alloc ?_ _)); exact BK190.out) hb)
                      have n1_ := Aside0.mk (blk_below (g := gb191) (o := .cells #[.bool x192000_1, .bool x192001_1, .int .u64 x192002_1, .bool x192003_1, .bool x192004_1, .int .u64 x192005_1] 32 (0, 0)) (by (with_reducible repeat (first | refine blk_drewN ?_ _ | refine blk_drew ?_ | refine blk_alloc ?_ _)); exact BK191.out) hb)
                      have n2_ := Aside0.mk (blk_below (g := gb194) (o := .cells #[.int .i64 ((rd_T37 l0 x17_1).f0), .int .u8 ((rd_T37 l0 x17_1).f1.f0), .bool ((rd_T37 l0 x17_1).f1.f1), .bool ((rd_T37 l0 x17_1).f1.f2), .bool ((rd_T37 l0 x17_1).f1.f3), .int .u64 ((rd_T37 l0 x17_1).f1.f4)] 37 (0, 0)) (by (with_reducible repeat (first | refine blk_drewN ?_ _ | refine blk_drew ?_ | refine blk_alloc ?_ _)); exact BK194.out) hb)
                      have n3_ := Aside0.mk (blk_below (g := gb202) (o := .cells #[.bool t195, .bool t196, .int .u64 t197, .bool t198, .bool t199, .int .u64 t200] 29 (0, 0)) (by (with_reducible repeat (first | refine blk_drewN ?_ _ | refine blk_drew ?_ | refine blk_alloc ?_ _)); exact BK202.out) hb)
                      have n4_ := Aside0.mk (below_step (by repeat (first | (with_reducible first | exact HB.out | apply below_alloc | apply pw_below_drewN | apply below_drew1 | refine below_set ?_ GE190.out | refine below_set ?_ GE191.out | refine below_set ?_ GE194.out | refine below_set ?_ GE202.out) | exact HB.out)) hb)
                      clear BK190
                      clear BK191
                      clear BK194
                      clear BK202
                      clear HB
                      have BK190 := n0_
                      have BK191 := n1_
                      have BK194 := n2_
                      have BK202 := n3_
                      have HB := n4_
                      clear n0_ n1_ n2_ n3_ n4_
                      (try clear hb)
                      (try clear hb2)
                      (try clear hk)
                      (try clear hi)
                      refine hK.out _ _ ⟨(blk_cell BK191.out 0).trans rfl, (blk_cell BK191.out 1).trans rfl, (blk_cell BK191.out 2).trans rfl, (blk_cell BK191.out 3).trans rfl, (blk_cell BK191.out 4).trans rfl, (blk_cell BK191.out 5).trans rfl, (blk_cell BK194.out 0).trans rfl, (blk_cell BK194.out 1).trans rfl, (blk_cell BK194.out 2).trans rfl, (blk_cell BK194.out 3).trans rfl, (blk_cell BK194.out 4).trans rfl, (blk_cell BK194.out 5).trans rfl⟩ (fun hHeld => ?_)
                      clear hK K
                      refine norm_ (a' := ?_) ?_ ?_
                      rotate_left
                      · show Act.put _ (some 36) _ = _
                        simp only [Act.put, List.setIfInBounds_toArray, List.set_cons_zero, List.set_cons_succ, i64_w, i32_w]
                        rfl
                      refine two_ (i := 6) (j := 10) (Ni := some 37) (Nj := some 9) #[true, true, true, true, true, true, true, false, false, false, false, false, false] #[true, true, true, true, true, true, false, false, false, false, true, false, false] rfl rfl rfl rfl (two_of HT_.out (by kernel_rfl)) (by decide) (by decide) (fun K hK => ?_) (fun K hK => ?_)
                      · skip
                        refine goes_ Try.func7 (by kernel_rfl) rfl #[.agg #[.bool x192000_1, .bool x192001_1, .int .u64 x192002_1, .bool x192003_1, .bool x192004_1, .int .u64 x192005_1], .int .i64 ((rd_T37 l0 x17_1).f0), .agg #[.int .u8 t203, .bool t204, .bool t205, .bool t206, .int .u64 t207]] (by rfl) rfl rfl (by (try simp only [List.map_toArray, List.map_cons, List.map_nil]); first | done | rfl | (simp only [List.length_drop, List.length_take]; rfl)) ?_
                        with_reducible refine (carouselref14_Hear.calls x192000_1 x192001_1 x192002_1 x192003_1 x192004_1 x192005_1 ((rd_T37 l0 x17_1).f0) t203 t204 t205 t206 t207 t208 t209 t210 t211 t212 t213 t214 _ A12.out).mono ?_
                        rintro e w31 ⟨rfl, hb⟩
                        refine ⟨_, rfl, ?_⟩
                        have n0_ := Aside0.mk (blk_below (g := gb190) (o := .cells #[.bool x191000_1, .bool x191001_1, .int .u64 x191002_1, .bool x191003_1, .bool x191004_1, .int .u64 x191005_1] 29 (0, 0)) (by (with_reducible repeat (first | refine blk_drewN ?_ _ | refine blk_drew ?_ | refine blk_alloc ?_ _)); exact BK190.out) hb)
                        have n1_ := Aside0.mk (blk_below (g := gb191) (o := .cells #[.bool x192000_1, .bool x192001_1, .int .u64 x192002_1, .bool x192003_1, .bool x192004_1, .int .u64 x192005_1] 32 (0, 0)) (by (with_reducible repeat (first | refine blk_drewN ?_ _ | refine blk_drew ?_ | refine blk_alloc ?_ _)); exact BK191.out) hb)
                        have n2_ := Aside0.mk (blk_below (g := gb194) (o := .cells #[.int .i64 ((rd_T37 l0 x17_1).f0), .int .u8 ((rd_T37 l0 x17_1).f1.f0), .bool ((rd_T37 l0 x17_1).f1.f1), .bool ((rd_T37 l0 x17_1).f1.f2), .bool ((rd_T37 l0 x17_1).f1.f3), .int .u64 ((rd_T37 l0 x17_1).f1.f4)] 37 (0, 0)) (by (with_reducible repeat (first | refine blk_drewN ?_ _ | refine blk_drew ?_ | refine blk_alloc ?_ _)); exact BK194.out) hb)
                        have n3_ := Aside0.mk (blk_below (g := gb202) (o := .cells #[.bool t195, .bool t196, .int .u64 t197, .bool t198, .bool t199, .int .u64 t200] 29 (0, 0)) (by (with_reducible repeat (first | refine blk_drewN ?_ _ | refine blk_drew ?_ | refine blk_alloc ?_ _)); exact BK202.out) hb)
                        have n4_ := Aside0.mk (below_step (by repeat (first | (with_reducible first | exact HB.out | apply below_alloc | apply pw_below_drewN | apply below_drew1 | refine below_set ?_ GE190.out | refine below_set ?_ GE191.out | refine below_set ?_ GE194.out | refine below_set ?_ GE202.out) | exact HB.out)) hb)
                        clear BK190
                        clear BK191
                        clear BK194
                        clear BK202
                        clear HB
                        have BK190 := n0_
                        have BK191 := n1_
                        have BK194 := n2_
                        have BK202 := n3_
                        have HB := n4_
                        clear n0_ n1_ n2_ n3_ n4_
                        (try clear hb)
                        (try clear hb2)
                        (try clear hk)
                        (try clear hi)
                        refine hK.out _ _ ⟨(blk_cell BK191.out 0).trans rfl, (blk_cell BK191.out 1).trans rfl, (blk_cell BK191.out 2).trans rfl, (blk_cell BK191.out 3).trans rfl, (blk_cell BK191.out 4).trans rfl, (blk_cell BK191.out 5).trans rfl, (blk_cell BK194.out 0).trans rfl, (blk_cell BK194.out 1).trans rfl, (blk_cell BK194.out 2).trans rfl, (blk_cell BK194.out 3).trans rfl, (blk_cell BK194.out 4).trans rfl, (blk_cell BK194.out 5).trans rfl⟩ (fun hHeld => ?_)
                        clear hK K
                        refine norm_ (a' := ?_) ?_ ?_
                        rotate_left
                        · show Act.put _ (some 37) _ = _
                          simp only [Act.put, List.setIfInBounds_toArray, List.set_cons_zero, List.set_cons_succ, i64_w, i32_w]
                          rfl
                        refine pure_ (i := 7) (N := some 30) (v := ?_) (a' := ?_) #[true, true, true, true, true, true, true, true, false, false, false, false, false] rfl rfl (any_of HT_.out (by kernel_rfl)) (fun _ _ _ h => h) (Or.inl ⟨by rfl, ?_⟩) ?_ ?_
                        rotate_left
                        · intro w'
                          go_simp
                          with_reducible rfl
                        rotate_left
                        · simp only [Act.put, List.setIfInBounds_toArray, List.set_cons_zero, List.set_cons_succ, i64_w, i32_w]
                          rfl
                        refine pure_ (i := 8) (N := some 38) (v := ?_) (a' := ?_) #[true, true, true, true, true, true, true, true, true, false, false, false, false] rfl rfl (any_of HT_.out (by kernel_rfl)) (fun _ _ _ h => h) (Or.inl ⟨by rfl, ?_⟩) ?_ ?_
                        rotate_left
                        · intro w'
                          go_simp
                          with_reducible rfl
                        rotate_left
                        · simp only [Act.put, List.setIfInBounds_toArray, List.set_cons_zero, List.set_cons_succ, i64_w, i32_w]
                          rfl
                        refine pure_ (i := 9) (N := some 39) (v := ?_) (a' := ?_) #[true, true, true, true, true, true, true, true, true, true, false, false, false] rfl rfl (any_of HT_.out (by kernel_rfl)) (fun _ _ _ h => h) (Or.inl ⟨by rfl, ?_⟩) ?_ ?_
                        rotate_left
                        · intro w'
                          go_simp
                          with_reducible rfl
                        rotate_left
                        · simp only [Act.put, List.setIfInBounds_toArray, List.set_cons_zero, List.set_cons_succ, i64_w, i32_w]
                          rfl
                        refine one_ (i := 10) (N := some 9) #[true, true, true, true, true, true, true, true, true, true, true, false, false] rfl rfl (one_of HT_.out (by kernel_rfl)) (by decide) (fun K hK => ?_)
                        refine box_step ?hg (N := 9) ?hd (cs := #[.bool false, .bool false, .int .u64 0, .bool false, .bool false, .int .u64 0]) (t := 32) ?hr ?_; (case hd => rfl); (case hg => rfl); (case hr => first | (go_simp; done) | (go_simp; rfl))
                        intro gb215 hg w32 hbox hb
                        have n0_ := Aside0.mk (blk_below (g := gb190) (o := .cells #[.bool x191000_1, .bool x191001_1, .int .u64 x191002_1, .bool x191003_1, .bool x191004_1, .int .u64 x191005_1] 29 (0, 0)) (by (with_reducible repeat (first | refine blk_drewN ?_ _ | refine blk_drew ?_ | refine blk_alloc ?_ _)); exact BK190.out) hb)
                        have n1_ := Aside0.mk (blk_below (g := gb191) (o := .cells #[.bool x192000_1, .bool x192001_1, .int .u64 x192002_1, .bool x192003_1, .bool x192004_1, .int .u64 x192005_1] 32 (0, 0)) (by (with_reducible repeat (first | refine blk_drewN ?_ _ | refine blk_drew ?_ | refine blk_alloc ?_ _)); exact BK191.out) hb)
                        have n2_ := Aside0.mk (blk_below (g := gb194) (o := .cells #[.int .i64 ((rd_T37 l0 x17_1).f0), .int .u8 ((rd_T37 l0 x17_1).f1.f0), .bool ((rd_T37 l0 x17_1).f1.f1), .bool ((rd_T37 l0 x17_1).f1.f2), .bool ((rd_T37 l0 x17_1).f1.f3), .int .u64 ((rd_T37 l0 x17_1).f1.f4)] 37 (0, 0)) (by (with_reducible repeat (first | refine blk_drewN ?_ _ | refine blk_drew ?_ | refine blk_alloc ?_ _)); exact BK194.out) hb)
                        have n3_ := Aside0.mk (blk_below (g := gb202) (o := .cells #[.bool t195, .bool t196, .int .u64 t197, .bool t198, .bool t199, .int .u64 t200] 29 (0, 0)) (by (with_reducible repeat (first | refine blk_drewN ?_ _ | refine blk_drew ?_ | refine blk_alloc ?_ _)); exact BK202.out) hb)
                        have n4_ := Aside0.mk (below_step (by repeat (first | (with_reducible first | exact HB.out | apply below_alloc | apply pw_below_drewN | apply below_drew1 | refine below_set ?_ GE190.out | refine below_set ?_ GE191.out | refine below_set ?_ GE194.out | refine below_set ?_ GE202.out) | exact HB.out)) hb)
                        have n5_ := Aside0.mk (hbox)
                        have n6_ := Aside0.mk ((by rw [hg]; exact (below_size (by repeat (first | (with_reducible first | exact HB.out | apply below_alloc | apply pw_below_drewN | apply below_drew1 | refine below_set ?_ GE190.out | refine below_set ?_ GE191.out | refine below_set ?_ GE194.out | refine below_set ?_ GE202.out) | exact HB.out))) : w.heap.size ≤ gb215))
                        have n7_ := Aside0.mk ((by rw [hg]; exact (below_size (by repeat (first | (with_reducible first | exact HB.out | apply below_alloc | apply pw_below_drewN | apply below_drew1 | refine below_set ?_ GE190.out | refine below_set ?_ GE191.out | refine below_set ?_ GE194.out | refine below_set ?_ GE202.out) | exact HB.out))) : w.heap.size ≤ gb215))
                        have n8_ := Aside0.mk ((by rw [hg]; exact Nat.ne_of_lt (blk_lt (g := gb190) (o := .cells #[.bool x191000_1, .bool x191001_1, .int .u64 x191002_1, .bool x191003_1, .bool x191004_1, .int .u64 x191005_1] 29 (0, 0)) (by (with_reducible repeat (first | refine blk_drewN ?_ _ | refine blk_drew ?_ | refine blk_alloc ?_ _)); exact BK190.out)) : gb190 ≠ gb215))
                        have n9_ := Aside0.mk ((by rw [hg]; exact Nat.ne_of_gt (blk_lt (g := gb190) (o := .cells #[.bool x191000_1, .bool x191001_1, .int .u64 x191002_1, .bool x191003_1, .bool x191004_1, .int .u64 x191005_1] 29 (0, 0)) (by (with_reducible repeat (first | refine blk_drewN ?_ _ | refine blk_drew ?_ | refine blk_alloc ?_ _)); exact BK190.out)) : gb215 ≠ gb190))
                        have n10_ := Aside0.mk ((by rw [hg]; exact Nat.ne_of_lt (blk_lt (g := gb191) (o := .cells #[.bool x192000_1, .bool x192001_1, .int .u64 x192002_1, .bool x192003_1, .bool x192004_1, .int .u64 x192005_1] 32 (0, 0)) (by (with_reducible repeat (first | refine blk_drewN ?_ _ | refine blk_drew ?_ | refine blk_alloc ?_ _)); exact BK191.out)) : gb191 ≠ gb215))
                        have n11_ := Aside0.mk ((by rw [hg]; exact Nat.ne_of_gt (blk_lt (g := gb191) (o := .cells #[.bool x192000_1, .bool x192001_1, .int .u64 x192002_1, .bool x192003_1, .bool x192004_1, .int .u64 x192005_1] 32 (0, 0)) (by (with_reducible repeat (first | refine blk_drewN ?_ _ | refine blk_drew ?_ | refine blk_alloc ?_ _)); exact BK191.out)) : gb215 ≠ gb191))
                        have n12_ := Aside0.mk ((by rw [hg]; exact Nat.ne_of_lt (blk_lt (g := gb194) (o := .cells #[.int .i64 ((rd_T37 l0 x17_1).f0), .int .u8 ((rd_T37 l0 x17_1).f1.f0), .bool ((rd_T37 l0 x17_1).f1.f1), .bool ((rd_T37 l0 x17_1).f1.f2), .bool ((rd_T37 l0 x17_1).f1.f3), .int .u64 ((rd_T37 l0 x17_1).f1.f4)] 37 (0, 0)) (by (with_reducible repeat (first | refine blk_drewN ?_ _ | refine blk_drew ?_ | refine blk_alloc ?_ _)); exact BK194.out)) : gb194 ≠ gb215))
                        have n13_ := Aside0.mk ((by rw [hg]; exact Nat.ne_of_gt (blk_lt (g := gb194) (o := .cells #[.int .i64 ((rd_T37 l0 x17_1).f0), .int .u8 ((rd_T37 l0 x17_1).f1.f0), .bool ((rd_T37 l0 x17_1).f1.f1), .bool ((rd_T37 l0 x17_1).f1.f2), .bool ((rd_T37 l0 x17_1).f1.f3), .int .u64 ((rd_T37 l0 x17_1).f1.f4)] 37 (0, 0)) (by (with_reducible repeat (first | refine blk_drewN ?_ _ | refine blk_drew ?_ | refine blk_alloc ?_ _)); exact BK194.out)) : gb215 ≠ gb194))
                        have n14_ := Aside0.mk ((by rw [hg]; exact Nat.ne_of_lt (blk_lt (g := gb202) (o := .cells #[.bool t195, .bool t196, .int .u64 t197, .bool t198, .bool t199, .int .u64 t200] 29 (0, 0)) (by (with_reducible repeat (first | refine blk_drewN ?_ _ | refine blk_drew ?_ | refine blk_alloc ?_ _)); exact BK202.out)) : gb202 ≠ gb215))
                        have n15_ := Aside0.mk ((by rw [hg]; exact Nat.ne_of_gt (blk_lt (g := gb202) (o := .cells #[.bool t195, .bool t196, .int .u64 t197, .bool t198, .bool t199, .int .u64 t200] 29 (0, 0)) (by (with_reducible repeat (first | refine blk_drewN ?_ _ | refine blk_drew ?_ | refine blk_alloc ?_ _)); exact BK202.out)) : gb215 ≠ gb202))
                        clear BK190
                        clear BK191
                        clear BK194
                        clear BK202
                        clear HB
                        have BK190 := n0_
                        have BK191 := n1_
                        have BK194 := n2_
                        have BK202 := n3_
                        have HB := n4_
                        have BK215 := n5_
                        have GW215 := n6_
                        have GE215 := n7_
                        have NB190_215 := n8_
                        have NB215_190 := n9_
                        have NB191_215 := n10_
                        have NB215_191 := n11_
                        have NB194_215 := n12_
                        have NB215_194 := n13_
                        have NB202_215 := n14_
                        have NB215_202 := n15_
                        clear n0_ n1_ n2_ n3_ n4_ n5_ n6_ n7_ n8_ n9_ n10_ n11_ n12_ n13_ n14_ n15_
                        clear hb hbox hg
                        refine hK.out _ _ ⟨(blk_cell BK191.out 0).trans rfl, (blk_cell BK191.out 1).trans rfl, (blk_cell BK191.out 2).trans rfl, (blk_cell BK191.out 3).trans rfl, (blk_cell BK191.out 4).trans rfl, (blk_cell BK191.out 5).trans rfl, (blk_cell BK194.out 0).trans rfl, (blk_cell BK194.out 1).trans rfl, (blk_cell BK194.out 2).trans rfl, (blk_cell BK194.out 3).trans rfl, (blk_cell BK194.out 4).trans rfl, (blk_cell BK194.out 5).trans rfl⟩ (fun hHeld => ?_)
                        clear hK K
                        refine norm_ (a' := ?_) ?_ ?_
                        rotate_left
                        · show Act.put _ (some 9) _ = _
                          simp only [Act.put, List.setIfInBounds_toArray, List.set_cons_zero, List.set_cons_succ, i64_w, i32_w]
                          rfl
                        exact norm_ (by first | (simp only [putAll, Act.put, List.setIfInBounds_toArray, List.set_cons_zero, List.set_cons_succ]; done) | (simp only [putAll, Act.put, List.setIfInBounds_toArray, List.set_cons_zero, List.set_cons_succ]; rfl) | (have hu8_ : ∀ x_ m_ : Int, (IntKind.u8.wrap x_).tmod m_ = x_ % 256 % m_ := (fun x_ m_ => Int.tmod_eq_emod_of_nonneg (Int.emod_nonneg x_ (by decide))); simp only [putAll, Act.put, List.setIfInBounds_toArray, List.set_cons_zero, List.set_cons_succ]; simp only [hu8_]; rfl)) (hCont (gb215) _ ⟨hHeld, (by (with_reducible repeat (first | refine blk_drewN ?_ _ | refine blk_drew ?_ | refine blk_alloc ?_ _)); exact BK190.out), (by (with_reducible repeat (first | refine blk_drewN ?_ _ | refine blk_drew ?_ | refine blk_alloc ?_ _)); exact BK191.out), (by (with_reducible repeat (first | refine blk_drewN ?_ _ | refine blk_drew ?_ | refine blk_alloc ?_ _)); exact BK194.out), (by (with_reducible repeat (first | refine blk_drewN ?_ _ | refine blk_drew ?_ | refine blk_alloc ?_ _)); exact BK202.out), (by (with_reducible repeat (first | refine blk_drewN ?_ _ | refine blk_drew ?_ | refine blk_alloc ?_ _)); exact BK215.out), GW215.out, GE215.out, NB190_215.out, NB215_190.out, NB191_215.out, NB215_191.out, NB194_215.out, NB215_194.out, NB202_215.out, NB215_202.out, (by repeat (first | (with_reducible first | exact HB.out | apply below_alloc | apply pw_below_drewN | apply below_drew1 | refine below_set ?_ GE190.out | refine below_set ?_ GE191.out | refine below_set ?_ GE194.out | refine below_set ?_ GE202.out | refine below_set ?_ GE215.out) | exact HB.out))⟩)
                      · skip
                        refine box_step ?hg (N := 9) ?hd (cs := #[.bool false, .bool false, .int .u64 0, .bool false, .bool false, .int .u64 0]) (t := 32) ?hr ?_; (case hd => rfl); (case hg => rfl); (case hr => first | (go_simp; done) | (go_simp; rfl))
                        intro gb215 hg w31 hbox hb
                        have n0_ := Aside0.mk (blk_below (g := gb190) (o := .cells #[.bool x191000_1, .bool x191001_1, .int .u64 x191002_1, .bool x191003_1, .bool x191004_1, .int .u64 x191005_1] 29 (0, 0)) (by (with_reducible repeat (first | refine blk_drewN ?_ _ | refine blk_drew ?_ | refine blk_alloc ?_ _)); exact BK190.out) hb)
                        have n1_ := Aside0.mk (blk_below (g := gb191) (o := .cells #[.bool x192000_1, .bool x192001_1, .int .u64 x192002_1, .bool x192003_1, .bool x192004_1, .int .u64 x192005_1] 32 (0, 0)) (by (with_reducible repeat (first | refine blk_drewN ?_ _ | refine blk_drew ?_ | refine blk_alloc ?_ _)); exact BK191.out) hb)
                        have n2_ := Aside0.mk (blk_below (g := gb194) (o := .cells #[.int .i64 ((rd_T37 l0 x17_1).f0), .int .u8 ((rd_T37 l0 x17_1).f1.f0), .bool ((rd_T37 l0 x17_1).f1.f1), .bool ((rd_T37 l0 x17_1).f1.f2), .bool ((rd_T37 l0 x17_1).f1.f3), .int .u64 ((rd_T37 l0 x17_1).f1.f4)] 37 (0, 0)) (by (with_reducible repeat (first | refine blk_drewN ?_ _ | refine blk_drew ?_ | refine blk_alloc ?_ _)); exact BK194.out) hb)
                        have n3_ := Aside0.mk (blk_below (g := gb202) (o := .cells #[.bool t195, .bool t196, .int .u64 t197, .bool t198, .bool t199, .int .u64 t200] 29 (0, 0)) (by (with_reducible repeat (first | refine blk_drewN ?_ _ | refine blk_drew ?_ | refine blk_alloc ?_ _)); exact BK202.out) hb)
                        have n4_ := Aside0.mk (below_step (by repeat (first | (with_reducible first | exact HB.out | apply below_alloc | apply pw_below_drewN | apply below_drew1 | refine below_set ?_ GE190.out | refine below_set ?_ GE191.out | refine below_set ?_ GE194.out | refine below_set ?_ GE202.out) | exact HB.out)) hb)
                        have n5_ := Aside0.mk (hbox)
                        have n6_ := Aside0.mk ((by rw [hg]; exact (below_size (by repeat (first | (with_reducible first | exact HB.out | apply below_alloc | apply pw_below_drewN | apply below_drew1 | refine below_set ?_ GE190.out | refine below_set ?_ GE191.out | refine below_set ?_ GE194.out | refine below_set ?_ GE202.out) | exact HB.out))) : w.heap.size ≤ gb215))
                        have n7_ := Aside0.mk ((by rw [hg]; exact (below_size (by repeat (first | (with_reducible first | exact HB.out | apply below_alloc | apply pw_below_drewN | apply below_drew1 | refine below_set ?_ GE190.out | refine below_set ?_ GE191.out | refine below_set ?_ GE194.out | refine below_set ?_ GE202.out) | exact HB.out))) : w.heap.size ≤ gb215))
                        have n8_ := Aside0.mk ((by rw [hg]; exact Nat.ne_of_lt (blk_lt (g := gb190) (o := .cells #[.bool x191000_1, .bool x191001_1, .int .u64 x191002_1, .bool x191003_1, .bool x191004_1, .int .u64 x191005_1] 29 (0, 0)) (by (with_reducible repeat (first | refine blk_drewN ?_ _ | refine blk_drew ?_ | refine blk_alloc ?_ _)); exact BK190.out)) : gb190 ≠ gb215))
                        have n9_ := Aside0.mk ((by rw [hg]; exact Nat.ne_of_gt (blk_lt (g := gb190) (o := .cells #[.bool x191000_1, .bool x191001_1, .int .u64 x191002_1, .bool x191003_1, .bool x191004_1, .int .u64 x191005_1] 29 (0, 0)) (by (with_reducible repeat (first | refine blk_drewN ?_ _ | refine blk_drew ?_ | refine blk_alloc ?_ _)); exact BK190.out)) : gb215 ≠ gb190))
                        have n10_ := Aside0.mk ((by rw [hg]; exact Nat.ne_of_lt (blk_lt (g := gb191) (o := .cells #[.bool x192000_1, .bool x192001_1, .int .u64 x192002_1, .bool x192003_1, .bool x192004_1, .int .u64 x192005_1] 32 (0, 0)) (by (with_reducible repeat (first | refine blk_drewN ?_ _ | refine blk_drew ?_ | refine blk_alloc ?_ _)); exact BK191.out)) : gb191 ≠ gb215))
                        have n11_ := Aside0.mk ((by rw [hg]; exact Nat.ne_of_gt (blk_lt (g := gb191) (o := .cells #[.bool x192000_1, .bool x192001_1, .int .u64 x192002_1, .bool x192003_1, .bool x192004_1, .int .u64 x192005_1] 32 (0, 0)) (by (with_reducible repeat (first | refine blk_drewN ?_ _ | refine blk_drew ?_ | refine blk_alloc ?_ _)); exact BK191.out)) : gb215 ≠ gb191))
                        have n12_ := Aside0.mk ((by rw [hg]; exact Nat.ne_of_lt (blk_lt (g := gb194) (o := .cells #[.int .i64 ((rd_T37 l0 x17_1).f0), .int .u8 ((rd_T37 l0 x17_1).f1.f0), .bool ((rd_T37 l0 x17_1).f1.f1), .bool ((rd_T37 l0 x17_1).f1.f2), .bool ((rd_T37 l0 x17_1).f1.f3), .int .u64 ((rd_T37 l0 x17_1).f1.f4)] 37 (0, 0)) (by (with_reducible repeat (first | refine blk_drewN ?_ _ | refine blk_drew ?_ | refine blk_alloc ?_ _)); exact BK194.out)) : gb194 ≠ gb215))
                        have n13_ := Aside0.mk ((by rw [hg]; exact Nat.ne_of_gt (blk_lt (g := gb194) (o := .cells #[.int .i64 ((rd_T37 l0 x17_1).f0), .int .u8 ((rd_T37 l0 x17_1).f1.f0), .bool ((rd_T37 l0 x17_1).f1.f1), .bool ((rd_T37 l0 x17_1).f1.f2), .bool ((rd_T37 l0 x17_1).f1.f3), .int .u64 ((rd_T37 l0 x17_1).f1.f4)] 37 (0, 0)) (by (with_reducible repeat (first | refine blk_drewN ?_ _ | refine blk_drew ?_ | refine blk_alloc ?_ _)); exact BK194.out)) : gb215 ≠ gb194))
                        have n14_ := Aside0.mk ((by rw [hg]; exact Nat.ne_of_lt (blk_lt (g := gb202) (o := .cells #[.bool t195, .bool t196, .int .u64 t197, .bool t198, .bool t199, .int .u64 t200] 29 (0, 0)) (by (with_reducible repeat (first | refine blk_drewN ?_ _ | refine blk_drew ?_ | refine blk_alloc ?_ _)); exact BK202.out)) : gb202 ≠ gb215))
                        have n15_ := Aside0.mk ((by rw [hg]; exact Nat.ne_of_gt (blk_lt (g := gb202) (o := .cells #[.bool t195, .bool t196, .int .u64 t197, .bool t198, .bool t199, .int .u64 t200] 29 (0, 0)) (by (with_reducible repeat (first | refine blk_drewN ?_ _ | refine blk_drew ?_ | refine blk_alloc ?_ _)); exact BK202.out)) : gb215 ≠ gb202))
                        clear BK190
                        clear BK191
                        clear BK194
                        clear BK202
                        clear HB
                        have BK190 := n0_
                        have BK191 := n1_
                        have BK194 := n2_
                        have BK202 := n3_
                        have HB := n4_
                        have BK215 := n5_
                        have GW215 := n6_
                        have GE215 := n7_
                        have NB190_215 := n8_
                        have NB215_190 := n9_
                        have NB191_215 := n10_
                        have NB215_191 := n11_
                        have NB194_215 := n12_
                        have NB215_194 := n13_
                        have NB202_215 := n14_
                        have NB215_202 := n15_
                        clear n0_ n1_ n2_ n3_ n4_ n5_ n6_ n7_ n8_ n9_ n10_ n11_ n12_ n13_ n14_ n15_
                        clear hb hbox hg
                        refine hK.out _ _ ⟨(blk_cell BK191.out 0).trans rfl, (blk_cell BK191.out 1).trans rfl, (blk_cell BK191.out 2).trans rfl, (blk_cell BK191.out 3).trans rfl, (blk_cell BK191.out 4).trans rfl, (blk_cell BK191.out 5).trans rfl, (blk_cell BK194.out 0).trans rfl, (blk_cell BK194.out 1).trans rfl, (blk_cell BK194.out 2).trans rfl, (blk_cell BK194.out 3).trans rfl, (blk_cell BK194.out 4).trans rfl, (blk_cell BK194.out 5).trans rfl⟩ (fun hHeld => ?_)
                        clear hK K
                        refine norm_ (a' := ?_) ?_ ?_
                        rotate_left
                        · show Act.put _ (some 9) _ = _
                          simp only [Act.put, List.setIfInBounds_toArray, List.set_cons_zero, List.set_cons_succ, i64_w, i32_w]
                          rfl
                        refine one_ (i := 6) (N := some 37) #[true, true, true, true, true, true, true, false, false, false, true, false, false] rfl rfl (one_of HT_.out (by kernel_rfl)) (by decide) (fun K hK => ?_)
                        refine goes_ Try.func7 (by kernel_rfl) rfl #[.agg #[.bool x192000_1, .bool x192001_1, .int .u64 x192002_1, .bool x192003_1, .bool x192004_1, .int .u64 x192005_1], .int .i64 ((rd_T37 l0 x17_1).f0), .agg #[.int .u8 t203, .bool t204, .bool t205, .bool t206, .int .u64 t207]] (by rfl) rfl rfl (by (try simp only [List.map_toArray, List.map_cons, List.map_nil]); first | done | rfl | (simp only [List.length_drop, List.length_take]; rfl)) ?_
                        with_reducible refine (carouselref14_Hear.calls x192000_1 x192001_1 x192002_1 x192003_1 x192004_1 x192005_1 ((rd_T37 l0 x17_1).f0) t203 t204 t205 t206 t207 t208 t209 t210 t211 t212 t213 t214 _ A12.out).mono ?_
                        rintro e w32 ⟨rfl, hb⟩
                        refine ⟨_, rfl, ?_⟩
                        have n0_ := Aside0.mk (blk_below (g := gb190) (o := .cells #[.bool x191000_1, .bool x191001_1, .int .u64 x191002_1, .bool x191003_1, .bool x191004_1, .int .u64 x191005_1] 29 (0, 0)) (by (with_reducible repeat (first | refine blk_drewN ?_ _ | refine blk_drew ?_ | refine blk_alloc ?_ _)); exact BK190.out) hb)
                        have n1_ := Aside0.mk (blk_below (g := gb191) (o := .cells #[.bool x192000_1, .bool x192001_1, .int .u64 x192002_1, .bool x192003_1, .bool x192004_1, .int .u64 x192005_1] 32 (0, 0)) (by (with_reducible repeat (first | refine blk_drewN ?_ _ | refine blk_drew ?_ | refine blk_alloc ?_ _)); exact BK191.out) hb)
                        have n2_ := Aside0.mk (blk_below (g := gb194) (o := .cells #[.int .i64 ((rd_T37 l0 x17_1).f0), .int .u8 ((rd_T37 l0 x17_1).f1.f0), .bool ((rd_T37 l0 x17_1).f1.f1), .bool ((rd_T37 l0 x17_1).f1.f2), .bool ((rd_T37 l0 x17_1).f1.f3), .int .u64 ((rd_T37 l0 x17_1).f1.f4)] 37 (0, 0)) (by (with_reducible repeat (first | refine blk_drewN ?_ _ | refine blk_drew ?_ | refine blk_alloc ?_ _)); exact BK194.out) hb)
                        have n3_ := Aside0.mk (blk_below (g := gb202) (o := .cells #[.bool t195, .bool t196, .int .u64 t197, .bool t198, .bool t199, .int .u64 t200] 29 (0, 0)) (by (with_reducible repeat (first | refine blk_drewN ?_ _ | refine blk_drew ?_ | refine blk_alloc ?_ _)); exact BK202.out) hb)
                        have n4_ := Aside0.mk (blk_below (g := gb215) (o := .cells #[.bool false, .bool false, .int .u64 0, .bool false, .bool false, .int .u64 0] 32 (0, 0)) (by (with_reducible repeat (first | refine blk_drewN ?_ _ | refine blk_drew ?_ | refine blk_alloc ?_ _)); exact BK215.out) hb)
                        have n5_ := Aside0.mk (below_step (by repeat (first | (with_reducible first | exact HB.out | apply below_alloc | apply pw_below_drewN | apply below_drew1 | refine below_set ?_ GE190.out | refine below_set ?_ GE191.out | refine below_set ?_ GE194.out | refine below_set ?_ GE202.out | refine below_set ?_ GE215.out) | exact HB.out)) hb)
                        clear BK190
                        clear BK191
                        clear BK194
                        clear BK202
                        clear BK215
                        clear HB
                        have BK190 := n0_
                        have BK191 := n1_
                        have BK194 := n2_
                        have BK202 := n3_
                        have BK215 := n4_
                        have HB := n5_
                        clear n0_ n1_ n2_ n3_ n4_ n5_
                        (try clear hb)
                        (try clear hb2)
                        (try clear hk)
                        (try clear hi)
                        refine hK.out _ _ ⟨(blk_cell BK191.out 0).trans rfl, (blk_cell BK191.out 1).trans rfl, (blk_cell BK191.out 2).trans rfl, (blk_cell BK191.out 3).trans rfl, (blk_cell BK191.out 4).trans rfl, (blk_cell BK191.out 5).trans rfl, (blk_cell BK194.out 0).trans rfl, (blk_cell BK194.out 1).trans rfl, (blk_cell BK194.out 2).trans rfl, (blk_cell BK194.out 3).trans rfl, (blk_cell BK194.out 4).trans rfl, (blk_cell BK194.out 5).trans rfl⟩ (fun hHeld => ?_)
                        clear hK K
                        refine norm_ (a' := ?_) ?_ ?_
                        rotate_left
                        · show Act.put _ (some 37) _ = _
                          simp only [Act.put, List.setIfInBounds_toArray, List.set_cons_zero, List.set_cons_succ, i64_w, i32_w]
                          rfl
                        refine pure_ (i := 7) (N := some 30) (v := ?_) (a' := ?_) #[true, true, true, true, true, true, true, true, false, false, true, false, false] rfl rfl (any_of HT_.out (by kernel_rfl)) (fun _ _ _ h => h) (Or.inl ⟨by rfl, ?_⟩) ?_ ?_
                        rotate_left
                        · intro w'
                          go_simp
                          with_reducible rfl
                        rotate_left
                        · simp only [Act.put, List.setIfInBounds_toArray, List.set_cons_zero, List.set_cons_succ, i64_w, i32_w]
                          rfl
                        refine pure_ (i := 8) (N := some 38) (v := ?_) (a' := ?_) #[true, true, true, true, true, true, true, true, true, false, true, false, false] rfl rfl (any_of HT_.out (by kernel_rfl)) (fun _ _ _ h => h) (Or.inl ⟨by rfl, ?_⟩) ?_ ?_
                        rotate_left
                        · intro w'
                          go_simp
                          with_reducible rfl
                        rotate_left
                        · simp only [Act.put, List.setIfInBounds_toArray, List.set_cons_zero, List.set_cons_succ, i64_w, i32_w]
                          rfl
                        refine pure_ (i := 9) (N := some 39) (v := ?_) (a' := ?_) #[true, true, true, true, true, true, true, true, true, true, true, false, false] rfl rfl (any_of HT_.out (by kernel_rfl)) (fun _ _ _ h => h) (Or.inl ⟨by rfl, ?_⟩) ?_ ?_
                        rotate_left
                        · intro w'
                          go_simp
                          with_reducible rfl
                        rotate_left
                        · simp only [Act.put, List.setIfInBounds_toArray, List.set_cons_zero, List.set_cons_succ, i64_w, i32_w]
                          rfl
                        exact norm_ (by first | (simp only [putAll, Act.put, List.setIfInBounds_toArray, List.set_cons_zero, List.set_cons_succ]; done) | (simp only [putAll, Act.put, List.setIfInBounds_toArray, List.set_cons_zero, List.set_cons_succ]; rfl) | (have hu8_ : ∀ x_ m_ : Int, (IntKind.u8.wrap x_).tmod m_ = x_ % 256 % m_ := (fun x_ m_ => Int.tmod_eq_emod_of_nonneg (Int.emod_nonneg x_ (by decide))); simp only [putAll, Act.put, List.setIfInBounds_toArray, List.set_cons_zero, List.set_cons_succ]; simp only [hu8_]; rfl)) (hCont (gb215) _ ⟨hHeld, (by (with_reducible repeat (first | refine blk_drewN ?_ _ | refine blk_drew ?_ | refine blk_alloc ?_ _)); exact BK190.out), (by (with_reducible repeat (first | refine blk_drewN ?_ _ | refine blk_drew ?_ | refine blk_alloc ?_ _)); exact BK191.out), (by (with_reducible repeat (first | refine blk_drewN ?_ _ | refine blk_drew ?_ | refine blk_alloc ?_ _)); exact BK194.out), (by (with_reducible repeat (first | refine blk_drewN ?_ _ | refine blk_drew ?_ | refine blk_alloc ?_ _)); exact BK202.out), (by (with_reducible repeat (first | refine blk_drewN ?_ _ | refine blk_drew ?_ | refine blk_alloc ?_ _)); exact BK215.out), GW215.out, GE215.out, NB190_215.out, NB215_190.out, NB191_215.out, NB215_191.out, NB194_215.out, NB215_194.out, NB202_215.out, NB215_202.out, (by repeat (first | (with_reducible first | exact HB.out | apply below_alloc | apply pw_below_drewN | apply below_drew1 | refine below_set ?_ GE190.out | refine below_set ?_ GE191.out | refine below_set ?_ GE194.out | refine below_set ?_ GE202.out | refine below_set ?_ GE215.out) | exact HB.out))⟩)
                    · skip
                      refine box_step ?hg (N := 9) ?hd (cs := #[.bool false, .bool false, .int .u64 0, .bool false, .bool false, .int .u64 0]) (t := 32) ?hr ?_; (case hd => rfl); (case hg => rfl); (case hr => first | (go_simp; done) | (go_simp; rfl))
                      intro gb215 hg w30 hbox hb
                      have n0_ := Aside0.mk (blk_below (g := gb190) (o := .cells #[.bool x191000_1, .bool x191001_1, .int .u64 x191002_1, .bool x191003_1, .bool x191004_1, .int .u64 x191005_1] 29 (0, 0)) (by (with_reducible repeat (first | refine blk_drewN ?_ _ | refine blk_drew ?_ | refine blk_alloc ?_ _)); exact BK190.out) hb)
                      have n1_ := Aside0.mk (blk_below (g := gb191) (o := .cells #[.bool x192000_1, .bool x192001_1, .int .u64 x192002_1, .bool x192003_1, .bool x192004_1, .int .u64 x192005_1] 32 (0, 0)) (by (with_reducible repeat (first | refine blk_drewN ?_ _ | refine blk_drew ?_ | refine blk_alloc ?_ _)); exact BK191.out) hb)
                      have n2_ := Aside0.mk (blk_below (g := gb194) (o := .cells #[.int .i64 ((rd_T37 l0 x17_1).f0), .int .u8 ((rd_T37 l0 x17_1).f1.f0), .bool ((rd_T37 l0 x17_1).f1.f1), .bool ((rd_T37 l0 x17_1).f1.f2), .bool ((rd_T37 l0 x17_1).f1.f3), .int .u64 ((rd_T37 l0 x17_1).f1.f4)] 37 (0, 0)) (by (with_reducible repeat (first | refine blk_drewN ?_ _ | refine blk_drew ?_ | refine blk_alloc ?_ _)); exact BK194.out) hb)
                      have n3_ := Aside0.mk (blk_below (g := gb202) (o := .cells #[.bool t195, .bool t196, .int .u64 t197, .bool t198, .bool t199, .int .u64 t200] 29 (0, 0)) (by (with_reducible repeat (first | refine blk_drewN ?_ _ | refine blk_drew ?_ | refine blk_alloc ?_ _)); exact BK202.out) hb)
                      have n4_ := Aside0.mk (below_step (by repeat (first | (with_reducible first | exact HB.out | apply below_alloc | apply pw_below_drewN | apply below_drew1 | refine below_set ?_ GE190.out | refine below_set ?_ GE191.out | refine below_set ?_ GE194.out | refine below_set ?_ GE202.out) | exact HB.out)) hb)
                      have n5_ := Aside0.mk (hbox)
                      have n6_ := Aside0.mk ((by rw [hg]; exact (below_size (by repeat (first | (with_reducible first | exact HB.out | apply below_alloc | apply pw_below_drewN | apply below_drew1 | refine below_set ?_ GE190.out | refine below_set ?_ GE191.out | refine below_set ?_ GE194.out | refine below_set ?_ GE202.out) | exact HB.out))) : w.heap.size ≤ gb215))
                      have n7_ := Aside0.mk ((by rw [hg]; exact (below_size (by repeat (first | (with_reducible first | exact HB.out | apply below_alloc | apply pw_below_drewN | apply below_drew1 | refine below_set ?_ GE190.out | refine below_set ?_ GE191.out | refine below_set ?_ GE194.out | refine below_set ?_ GE202.out) | exact HB.out))) : w.heap.size ≤ gb215))
                      have n8_ := Aside0.mk ((by rw [hg]; exact Nat.ne_of_lt (blk_lt (g := gb190) (o := .cells #[.bool x191000_1, .bool x191001_1, .int .u64 x191002_1, .bool x191003_1, .bool x191004_1, .int .u64 x191005_1] 29 (0, 0)) (by (with_reducible repeat (first | refine blk_drewN ?_ _ | refine blk_drew ?_ | refine blk_alloc ?_ _)); exact BK190.out)) : gb190 ≠ gb215))
                      have n9_ := Aside0.mk ((by rw [hg]; exact Nat.ne_of_gt (blk_lt (g := gb190) (o := .cells #[.bool x191000_1, .bool x191001_1, .int .u64 x191002_1, .bool x191003_1, .bool x191004_1, .int .u64 x191005_1] 29 (0, 0)) (by (with_reducible repeat (first | refine blk_drewN ?_ _ | refine blk_drew ?_ | refine blk_alloc ?_ _)); exact BK190.out)) : gb215 ≠ gb190))
                      have n10_ := Aside0.mk ((by rw [hg]; exact Nat.ne_of_lt (blk_lt (g := gb191) (o := .cells #[.bool x192000_1, .bool x192001_1, .int .u64 x192002_1, .bool x192003_1, .bool x192004_1, .int .u64 x192005_1] 32 (0, 0)) (by (with_reducible repeat (first | refine blk_drewN ?_ _ | refine blk_drew ?_ | refine blk_alloc ?_ _)); exact BK191.out)) : gb191 ≠ gb215))
                      have n11_ := Aside0.mk ((by rw [hg]; exact Nat.ne_of_gt (blk_lt (g := gb191) (o := .cells #[.bool x192000_1, .bool x192001_1, .int .u64 x192002_1, .bool x192003_1, .bool x192004_1, .int .u64 x192005_1] 32 (0, 0)) (by (with_reducible repeat (first | refine blk_drewN ?_ _ | refine blk_drew ?_ | refine blk_alloc ?_ _)); exact BK191.out)) : gb215 ≠ gb191))
                      have n12_ := Aside0.mk ((by rw [hg]; exact Nat.ne_of_lt (blk_lt (g := gb194) (o := .cells #[.int .i64 ((rd_T37 l0 x17_1).f0), .int .u8 ((rd_T37 l0 x17_1).f1.f0), .bool ((rd_T37 l0 x17_1).f1.f1), .bool ((rd_T37 l0 x17_1).f1.f2), .bool ((rd_T37 l0 x17_1).f1.f3), .int .u64 ((rd_T37 l0 x17_1).f1.f4)] 37 (0, 0)) (by (with_reducible repeat (first | refine blk_drewN ?_ _ | refine blk_drew ?_ | refine blk_alloc ?_ _)); exact BK194.out)) : gb194 ≠ gb215))
                      have n13_ := Aside0.mk ((by rw [hg]; exact Nat.ne_of_gt (blk_lt (g := gb194) (o := .cells #[.int .i64 ((rd_T37 l0 x17_1).f0), .int .u8 ((rd_T37 l0 x17_1).f1.f0), .bool ((rd_T37 l0 x17_1).f1.f1), .bool ((rd_T37 l0 x17_1).f1.f2), .bool ((rd_T37 l0 x17_1).f1.f3), .int .u64 ((rd_T37 l0 x17_1).f1.f4)] 37 (0, 0)) (by (with_reducible repeat (first | refine blk_drewN ?_ _ | refine blk_drew ?_ | refine blk_alloc ?_ _)); exact BK194.out)) : gb215 ≠ gb194))
                      have n14_ := Aside0.mk ((by rw [hg]; exact Nat.ne_of_lt (blk_lt (g := gb202) (o := .cells #[.bool t195, .bool t196, .int .u64 t197, .bool t198, .bool t199, .int .u64 t200] 29 (0, 0)) (by (with_reducible repeat (first | refine blk_drewN ?_ _ | refine blk_drew ?_ | refine blk_alloc ?_ _)); exact BK202.out)) : gb202 ≠ gb215))
                      have n15_ := Aside0.mk ((by rw [hg]; exact Nat.ne_of_gt (blk_lt (g := gb202) (o := .cells #[.bool t195, .bool t196, .int .u64 t197, .bool t198, .bool t199, .int .u64 t200] 29 (0, 0)) (by (with_reducible repeat (first | refine blk_drewN ?_ _ | refine blk_drew ?_ | refine blk_alloc ?_ _)); exact BK202.out)) : gb215 ≠ gb202))
                      clear BK190
                      clear BK191
                      clear BK194
                      clear BK202
                      clear HB
                      have BK190 := n0_
                      have BK191 := n1_
                      have BK194 := n2_
                      have BK202 := n3_
                      have HB := n4_
                      have BK215 := n5_
                      have GW215 := n6_
                      have GE215 := n7_
                      have NB190_215 := n8_
                      have NB215_190 := n9_
                      have NB191_215 := n10_
                      have NB215_191 := n11_
                      have NB194_215 := n12_
                      have NB215_194 := n13_
                      have NB202_215 := n14_
                      have NB215_202 := n15_
                      clear n0_ n1_ n2_ n3_ n4_ n5_ n6_ n7_ n8_ n9_ n10_ n11_ n12_ n13_ n14_ n15_
                      clear hb hbox hg
                      refine hK.out _ _ ⟨(blk_cell BK191.out 0).trans rfl, (blk_cell BK191.out 1).trans rfl, (blk_cell BK191.out 2).trans rfl, (blk_cell BK191.out 3).trans rfl, (blk_cell BK191.out 4).trans rfl, (blk_cell BK191.out 5).trans rfl, (blk_cell BK194.out 0).trans rfl, (blk_cell BK194.out 1).trans rfl, (blk_cell BK194.out 2).trans rfl, (blk_cell BK194.out 3).trans rfl, (blk_cell BK194.out 4).trans rfl, (blk_cell BK194.out 5).trans rfl⟩ (fun hHeld => ?_)
                      clear hK K
                      refine norm_ (a' := ?_) ?_ ?_
                      rotate_left
                      · show Act.put _ (some 9) _ = _
                        simp only [Act.put, List.setIfInBounds_toArray, List.set_cons_zero, List.set_cons_succ, i64_w, i32_w]
                        rfl
                      refine one_ (i := 5) (N := some 36) #[true, true, true, true, true, true, false, false, false, false, true, false, false] rfl rfl (one_of HT_.out (by kernel_rfl)) (by decide) (fun K hK => ?_)
                      refine goes_ Try.func8 (by kernel_rfl) rfl #[.agg #[.int .u8 ((rd_T37 l0 x17_1).f1.f0), .bool ((rd_T37 l0 x17_1).f1.f1), .bool ((rd_T37 l0 x17_1).f1.f2), .bool ((rd_T37 l0 x17_1).f1.f3), .int .u64 ((rd_T37 l0 x17_1).f1.f4)]] (by rfl) rfl rfl (by (try simp only [List.map_toArray, List.map_cons, List.map_nil]); first | done | rfl | (simp only [List.length_drop, List.length_take]; rfl)) ?_
                      with_reducible refine (carousellaw05_Of.calls ((rd_T37 l0 x17_1).f1.f0) ((rd_T37 l0 x17_1).f1.f1) ((rd_T37 l0 x17_1).f1.f2) ((rd_T37 l0 x17_1).f1.f3) ((rd_T37 l0 x17_1).f1.f4) t203 t204 t205 t206 t207 _ A11.out).mono ?_
                      rintro e w31 ⟨rfl, hb⟩
                      refine ⟨_, rfl, ?_⟩
                      have n0_ := Aside0.mk (blk_below (g := gb190) (o := .cells #[.bool x191000_1, .bool x191001_1, .int .u64 x191002_1, .bool x191003_1, .bool x191004_1, .int .u64 x191005_1] 29 (0, 0)) (by (with_reducible repeat (first | refine blk_drewN ?_ _ | refine blk_drew ?_ | refine blk_alloc ?_ _)); exact BK190.out) hb)
                      have n1_ := Aside0.mk (blk_below (g := gb191) (o := .cells #[.bool x192000_1, .bool x192001_1, .int .u64 x192002_1, .bool x192003_1, .bool x192004_1, .int .u64 x192005_1] 32 (0, 0)) (by (with_reducible repeat (first | refine blk_drewN ?_ _ | refine blk_drew ?_ | refine blk_alloc ?_ _)); exact BK191.out) hb)
                      have n2_ := Aside0.mk (blk_below (g := gb194) (o := .cells #[.int .i64 ((rd_T37 l0 x17_1).f0), .int .u8 ((rd_T37 l0 x17_1).f1.f0), .bool ((rd_T37 l0 x17_1).f1.f1), .bool ((rd_T37 l0 x17_1).f1.f2), .bool ((rd_T37 l0 x17_1).f1.f3), .int .u64 ((rd_T37 l0 x17_1).f1.f4)] 37 (0, 0)) (by (with_reducible repeat (first | refine blk_drewN ?_ _ | refine blk_drew ?_ | refine blk_alloc ?_ _)); exact BK194.out) hb)
                      have n3_ := Aside0.mk (blk_below (g := gb202) (o := .cells #[.bool t195, .bool t196, .int .u64 t197, .bool t198, .bool t199, .int .u64 t200] 29 (0, 0)) (by (with_reducible repeat (first | refine blk_drewN ?_ _ | refine blk_drew ?_ | refine blk_alloc ?_ _)); exact BK202.out) hb)
                      have n4_ := Aside0.mk (blk_below (g := gb215) (o := .cells #[.bool false, .bool false, .int .u64 0, .bool false, .bool false, .int .u64 0] 32 (0, 0)) (by (with_reducible repeat (first | refine blk_drewN ?_ _ | refine blk_drew ?_ | refine blk_alloc ?_ _)); exact BK215.out) hb)
                      have n5_ := Aside0.mk (below_step (by repeat (first | (with_reducible first | exact HB.out | apply below_alloc | apply pw_below_drewN | apply below_drew1 | refine below_set ?_ GE190.out | refine below_set ?_ GE191.out | refine below_set ?_ GE194.out | refine below_set ?_ GE202.out | refine below_set ?_ GE215.out) | exact HB.out)) hb)
                      clear BK190
                      clear BK191
                      clear BK194
                      clear BK202
                      clear BK215
                      clear HB
                      have BK190 := n0_
                      have BK191 := n1_
                      have BK194 := n2_
                      have BK202 := n3_
                      have BK215 := n4_
                      have HB := n5_
                      clear n0_ n1_ n2_ n3_ n4_ n5_
                      (try clear hb)
                      (try clear hb2)
                      (try clear hk)
                      (try clear hi)
                      refine hK.out _ _ ⟨(blk_cell BK191.out 0).trans rfl, (blk_cell BK191.out 1).trans rfl, (blk_cell BK191.out 2).trans rfl, (blk_cell BK191.out 3).trans rfl, (blk_cell BK191.out 4).trans rfl, (blk_cell BK191.out 5).trans rfl, (blk_cell BK194.out 0).trans rfl, (blk_cell BK194.out 1).trans rfl, (blk_cell BK194.out 2).trans rfl, (blk_cell BK194.out 3).trans rfl, (blk_cell BK194.out 4).trans rfl, (blk_cell BK194.out 5).trans rfl⟩ (fun hHeld => ?_)
                      clear hK K
                      refine norm_ (a' := ?_) ?_ ?_
                      rotate_left
                      · show Act.put _ (some 36) _ = _
                        simp only [Act.put, List.setIfInBounds_toArray, List.set_cons_zero, List.set_cons_succ, i64_w, i32_w]
                        rfl
                      refine one_ (i := 6) (N := some 37) #[true, true, true, true, true, true, true, false, false, false, true, false, false] rfl rfl (one_of HT_.out (by kernel_rfl)) (by decide) (fun K hK => ?_)
                      refine goes_ Try.func7 (by kernel_rfl) rfl #[.agg #[.bool x192000_1, .bool x192001_1, .int .u64 x192002_1, .bool x192003_1, .bool x192004_1, .int .u64 x192005_1], .int .i64 ((rd_T37 l0 x17_1).f0), .agg #[.int .u8 t203, .bool t204, .bool t205, .bool t206, .int .u64 t207]] (by rfl) rfl rfl (by (try simp only [List.map_toArray, List.map_cons, List.map_nil]); first | done | rfl | (simp only [List.length_drop, List.length_take]; rfl)) ?_
                      with_reducible refine (carouselref14_Hear.calls x192000_1 x192001_1 x192002_1 x192003_1 x192004_1 x192005_1 ((rd_T37 l0 x17_1).f0) t203 t204 t205 t206 t207 t208 t209 t210 t211 t212 t213 t214 _ A12.out).mono ?_
                      rintro e w32 ⟨rfl, hb⟩
                      refine ⟨_, rfl, ?_⟩
                      have n0_ := Aside0.mk (blk_below (g := gb190) (o := .cells #[.bool x191000_1, .bool x191001_1, .int .u64 x191002_1, .bool x191003_1, .bool x191004_1, .int .u64 x191005_1] 29 (0, 0)) (by (with_reducible repeat (first | refine blk_drewN ?_ _ | refine blk_drew ?_ | refine blk_alloc ?_ _)); exact BK190.out) hb)
                      have n1_ := Aside0.mk (blk_below (g := gb191) (o := .cells #[.bool x192000_1, .bool x192001_1, .int .u64 x192002_1, .bool x192003_1, .bool x192004_1, .int .u64 x192005_1] 32 (0, 0)) (by (with_reducible repeat (first | refine blk_drewN ?_ _ | refine blk_drew ?_ | refine blk_alloc ?_ _)); exact BK191.out) hb)
                      have n2_ := Aside0.mk (blk_below (g := gb194) (o := .cells #[.int .i64 ((rd_T37 l0 x17_1).f0), .int .u8 ((rd_T37 l0 x17_1).f1.f0), .bool ((rd_T37 l0 x17_1).f1.f1), .bool ((rd_T37 l0 x17_1).f1.f2), .bool ((rd_T37 l0 x17_1).f1.f3), .int .u64 ((rd_T37 l0 x17_1).f1.f4)] 37 (0, 0)) (by (with_reducible repeat (first | refine blk_drewN ?_ _ | refine blk_drew ?_ | refine blk_alloc ?_ _)); exact BK194.out) hb)
                      have n3_ := Aside0.mk (blk_below (g := gb202) (o := .cells #[.bool t195, .bool t196, .int .u64 t197, .bool t198, .bool t199, .int .u64 t200] 29 (0, 0)) (by (with_reducible repeat (first | refine blk_drewN ?_ _ | refine blk_drew ?_ | refine blk_alloc ?_ _)); exact BK202.out) hb)
                      have n4_ := Aside0.mk (blk_below (g := gb215) (o := .cells #[.bool false, .bool false, .int .u64 0, .bool false, .bool false, .int .u64 0] 32 (0, 0)) (by (with_reducible repeat (first | refine blk_drewN ?_ _ | refine blk_drew ?_ | refine blk_alloc ?_ _)); exact BK215.out) hb)
                      have n5_ := Aside0.mk (below_step (by repeat (first | (with_reducible first | exact HB.out | apply below_alloc | apply pw_below_drewN | apply below_drew1 | refine below_set ?_ GE190.out | refine below_set ?_ GE191.out | refine below_set ?_ GE194.out | refine below_set ?_ GE202.out | refine below_set ?_ GE215.out) | exact HB.out)) hb)
                      clear BK190
                      clear BK191
                      clear BK194
                      clear BK202
                      clear BK215
                      clear HB
                      have BK190 := n0_
                      have BK191 := n1_
                      have BK194 := n2_
                      have BK202 := n3_
                      have BK215 := n4_
                      have HB := n5_
                      clear n0_ n1_ n2_ n3_ n4_ n5_
                      (try clear hb)
                      (try clear hb2)
                      (try clear hk)
                      (try clear hi)
                      refine hK.out _ _ ⟨(blk_cell BK191.out 0).trans rfl, (blk_cell BK191.out 1).trans rfl, (blk_cell BK191.out 2).trans rfl, (blk_cell BK191.out 3).trans rfl, (blk_cell BK191.out 4).trans rfl, (blk_cell BK191.out 5).trans rfl, (blk_cell BK194.out 0).trans rfl, (blk_cell BK194.out 1).trans rfl, (blk_cell BK194.out 2).trans rfl, (blk_cell BK194.out 3).trans rfl, (blk_cell BK194.out 4).trans rfl, (blk_cell BK194.out 5).trans rfl⟩ (fun hHeld => ?_)
                      clear hK K
                      refine norm_ (a' := ?_) ?_ ?_
                      rotate_left
                      · show Act.put _ (some 37) _ = _
                        simp only [Act.put, List.setIfInBounds_toArray, List.set_cons_zero, List.set_cons_succ, i64_w, i32_w]
                        rfl
                      refine pure_ (i := 7) (N := some 30) (v := ?_) (a' := ?_) #[true, true, true, true, true, true, true, true, false, false, true, false, false] rfl rfl (any_of HT_.out (by kernel_rfl)) (fun _ _ _ h => h) (Or.inl ⟨by rfl, ?_⟩) ?_ ?_
                      rotate_left
                      · intro w'
                        go_simp
                        with_reducible rfl
                      rotate_left
                      · simp only [Act.put, List.setIfInBounds_toArray, List.set_cons_zero, List.set_cons_succ, i64_w, i32_w]
                        rfl
                      refine pure_ (i := 8) (N := some 38) (v := ?_) (a' := ?_) #[true, true, true, true, true, true, true, true, true, false, true, false, false] rfl rfl (any_of HT_.out (by kernel_rfl)) (fun _ _ _ h => h) (Or.inl ⟨by rfl, ?_⟩) ?_ ?_
                      rotate_left
                      · intro w'
                        go_simp
                        with_reducible rfl
                      rotate_left
                      · simp only [Act.put, List.setIfInBounds_toArray, List.set_cons_zero, List.set_cons_succ, i64_w, i32_w]
                        rfl
                      refine pure_ (i := 9) (N := some 39) (v := ?_) (a' := ?_) #[true, true, true, true, true, true, true, true, true, true, true, false, false] rfl rfl (any_of HT_.out (by kernel_rfl)) (fun _ _ _ h => h) (Or.inl ⟨by rfl, ?_⟩) ?_ ?_
                      rotate_left
                      · intro w'
                        go_simp
                        with_reducible rfl
                      rotate_left
                      · simp only [Act.put, List.setIfInBounds_toArray, List.set_cons_zero, List.set_cons_succ, i64_w, i32_w]
                        rfl
                      exact norm_ (by first | (simp only [putAll, Act.put, List.setIfInBounds_toArray, List.set_cons_zero, List.set_cons_succ]; done) | (simp only [putAll, Act.put, List.setIfInBounds_toArray, List.set_cons_zero, List.set_cons_succ]; rfl) | (have hu8_ : ∀ x_ m_ : Int, (IntKind.u8.wrap x_).tmod m_ = x_ % 256 % m_ := (fun x_ m_ => Int.tmod_eq_emod_of_nonneg (Int.emod_nonneg x_ (by decide))); simp only [putAll, Act.put, List.setIfInBounds_toArray, List.set_cons_zero, List.set_cons_succ]; simp only [hu8_]; rfl)) (hCont (gb215) _ ⟨hHeld, (by (with_reducible repeat (first | refine blk_drewN ?_ _ | refine blk_drew ?_ | refine blk_alloc ?_ _)); exact BK190.out), (by (with_reducible repeat (first | refine blk_drewN ?_ _ | refine blk_drew ?_ | refine blk_alloc ?_ _)); exact BK191.out), (by (with_reducible repeat (first | refine blk_drewN ?_ _ | refine blk_drew ?_ | refine blk_alloc ?_ _)); exact BK194.out), (by (with_reducible repeat (first | refine blk_drewN ?_ _ | refine blk_drew ?_ | refine blk_alloc ?_ _)); exact BK202.out), (by (with_reducible repeat (first | refine blk_drewN ?_ _ | refine blk_drew ?_ | refine blk_alloc ?_ _)); exact BK215.out), GW215.out, GE215.out, NB190_215.out, NB215_190.out, NB191_215.out, NB215_191.out, NB194_215.out, NB215_194.out, NB202_215.out, NB215_202.out, (by repeat (first | (with_reducible first | exact HB.out | apply below_alloc | apply pw_below_drewN | apply below_drew1 | refine below_set ?_ GE190.out | refine below_set ?_ GE191.out | refine below_set ?_ GE194.out | refine below_set ?_ GE202.out | refine below_set ?_ GE215.out) | exact HB.out))⟩)
                  rintro gb215 w33 ⟨hS_, h0_, h1_, h2_, h3_, h4_, h5_, h6_, h7_, h8_, h9_, h10_, h11_, h12_, h13_, h14_, h15_⟩
                  have n0_ : Aside0 (w33.heap[gb190]? = some (.cells #[.bool x191000_1, .bool x191001_1, .int .u64 x191002_1, .bool x191003_1, .bool x191004_1, .int .u64 x191005_1] 29 (0, 0))) := ⟨h0_⟩
                  have n1_ : Aside0 (w33.heap[gb191]? = some (.cells #[.bool x192000_1, .bool x192001_1, .int .u64 x192002_1, .bool x192003_1, .bool x192004_1, .int .u64 x192005_1] 32 (0, 0))) := ⟨h1_⟩
                  have n2_ : Aside0 (w33.heap[gb194]? = some (.cells #[.int .i64 ((rd_T37 l0 x17_1).f0), .int .u8 ((rd_T37 l0 x17_1).f1.f0), .bool ((rd_T37 l0 x17_1).f1.f1), .bool ((rd_T37 l0 x17_1).f1.f2), .bool ((rd_T37 l0 x17_1).f1.f3), .int .u64 ((rd_T37 l0 x17_1).f1.f4)] 37 (0, 0))) := ⟨h2_⟩
                  have n3_ : Aside0 (w33.heap[gb202]? = some (.cells #[.bool t195, .bool t196, .int .u64 t197, .bool t198, .bool t199, .int .u64 t200] 29 (0, 0))) := ⟨h3_⟩
                  have n4_ : Aside0 (w33.heap[gb215]? = some (.cells #[.bool false, .bool false, .int .u64 0, .bool false, .bool false, .int .u64 0] 32 (0, 0))) := ⟨h4_⟩
                  have n5_ : Aside0 (w.heap.size ≤ gb215) := ⟨h5_⟩
                  have n6_ : Aside0 (w.heap.size ≤ gb215) := ⟨h6_⟩
                  have n7_ : Aside0 (gb190 ≠ gb215) := ⟨h7_⟩
                  have n8_ : Aside0 (gb215 ≠ gb190) := ⟨h8_⟩
                  have n9_ : Aside0 (gb191 ≠ gb215) := ⟨h9_⟩
                  have n10_ : Aside0 (gb215 ≠ gb191) := ⟨h10_⟩
                  have n11_ : Aside0 (gb194 ≠ gb215) := ⟨h11_⟩
                  have n12_ : Aside0 (gb215 ≠ gb194) := ⟨h12_⟩
                  have n13_ : Aside0 (gb202 ≠ gb215) := ⟨h13_⟩
                  have n14_ : Aside0 (gb215 ≠ gb202) := ⟨h14_⟩
                  have n15_ : Aside0 (Below w.heap.size w w33) := ⟨h15_⟩
                  clear BK190
                  clear BK191
                  clear BK194
                  clear BK202
                  clear HB
                  clear h0_ h1_ h2_ h3_ h4_ h5_ h6_ h7_ h8_ h9_ h10_ h11_ h12_ h13_ h14_ h15_
                  have BK190 := n0_
                  have BK191 := n1_
                  have BK194 := n2_
                  have BK202 := n3_
                  have BK215 := n4_
                  have GW215 := n5_
                  have GE215 := n6_
                  have NB190_215 := n7_
                  have NB215_190 := n8_
                  have NB191_215 := n9_
                  have NB215_191 := n10_
                  have NB194_215 := n11_
                  have NB215_194 := n12_
                  have NB202_215 := n13_
                  have NB215_202 := n14_
                  have HB := n15_
                  clear n0_ n1_ n2_ n3_ n4_ n5_ n6_ n7_ n8_ n9_ n10_ n11_ n12_ n13_ n14_ n15_
                  have hHeld : w33.cell? ⟨gb191, 0, none⟩ = some (.bool x192000_1) ∧ w33.cell? ⟨gb191, 1, none⟩ = some (.bool x192001_1) ∧ w33.cell? ⟨gb191, 2, none⟩ = some (.int .u64 x192002_1) ∧ w33.cell? ⟨gb191, 3, none⟩ = some (.bool x192003_1) ∧ w33.cell? ⟨gb191, 4, none⟩ = some (.bool x192004_1) ∧ w33.cell? ⟨gb191, 5, none⟩ = some (.int .u64 x192005_1) ∧ w33.cell? ⟨gb194, 0, none⟩ = some (.int .i64 ((rd_T37 l0 x17_1).f0)) ∧ w33.cell? ⟨gb194, 1, none⟩ = some (.int .u8 ((rd_T37 l0 x17_1).f1.f0)) ∧ w33.cell? ⟨gb194, 2, none⟩ = some (.bool ((rd_T37 l0 x17_1).f1.f1)) ∧ w33.cell? ⟨gb194, 3, none⟩ = some (.bool ((rd_T37 l0 x17_1).f1.f2)) ∧ w33.cell? ⟨gb194, 4, none⟩ = some (.bool ((rd_T37 l0 x17_1).f1.f3)) ∧ w33.cell? ⟨gb194, 5, none⟩ = some (.int .u64 ((rd_T37 l0 x17_1).f1.f4)) := hS_
                  refine norm_ (a' := ?_) ?_ ?_
                  rotate_left
                  · simp only [putAll, Act.put, List.setIfInBounds_toArray, List.set_cons_zero, List.set_cons_succ]
                    rfl
                  refine one_ (i := 11) (N := none) #[true, true, true, true, true, true, true, true, true, true, true, true, false] rfl rfl (one_of HT_.out (by kernel_rfl)) (by decide) (fun K hK => ?_)
                  have hs34 : w33.cell? ⟨gb215, 0, none⟩ = some (.bool false) := (blk_cell BK215.out 0).trans rfl
                  have hfs34 := blk_frozen BK215.out 0
                  have hns34_0 := NB190_215.out
                  have hns34_1 := NB191_215.out
                  have hns34_2 := NB194_215.out
                  have hns34_3 := NB202_215.out
                  have hms34_0 := NB215_190.out
                  have hms34_1 := NB215_191.out
                  have hms34_2 := NB215_194.out
                  have hms34_3 := NB215_202.out
                  have hs35 : w33.cell? ⟨gb215, 1, none⟩ = some (.bool false) := (blk_cell BK215.out 1).trans rfl
                  have hfs35 := blk_frozen BK215.out 1
                  have hns35_0 := NB190_215.out
                  have hns35_1 := NB191_215.out
                  have hns35_2 := NB194_215.out
                  have hns35_3 := NB202_215.out
                  have hms35_0 := NB215_190.out
                  have hms35_1 := NB215_191.out
                  have hms35_2 := NB215_194.out
                  have hms35_3 := NB215_202.out
                  have hs36 : w33.cell? ⟨gb215, 2, none⟩ = some (.int .u64 0) := (blk_cell BK215.out 2).trans rfl
                  have hfs36 := blk_frozen BK215.out 2
                  have hns36_0 := NB190_215.out
                  have hns36_1 := NB191_215.out
                  have hns36_2 := NB194_215.out
                  have hns36_3 := NB202_215.out
                  have hms36_0 := NB215_190.out
                  have hms36_1 := NB215_191.out
                  have hms36_2 := NB215_194.out
                  have hms36_3 := NB215_202.out
                  have hs37 : w33.cell? ⟨gb215, 3, none⟩ = some (.bool false) := (blk_cell BK215.out 3).trans rfl
                  have hfs37 := blk_frozen BK215.out 3
                  have hns37_0 := NB190_215.out
                  have hns37_1 := NB191_215.out
                  have hns37_2 := NB194_215.out
                  have hns37_3 := NB202_215.out
                  have hms37_0 := NB215_190.out
                  have hms37_1 := NB215_191.out
                  have hms37_2 := NB215_194.out
                  have hms37_3 := NB215_202.out
                  have hs38 : w33.cell? ⟨gb215, 4, none⟩ = some (.bool false) := (blk_cell BK215.out 4).trans rfl
                  have hfs38 := blk_frozen BK215.out 4
                  have hns38_0 := NB190_215.out
                  have hns38_1 := NB191_215.out
                  have hns38_2 := NB194_215.out
                  have hns38_3 := NB202_215.out
                  have hms38_0 := NB215_190.out
                  have hms38_1 := NB215_191.out
                  have hms38_2 := NB215_194.out
                  have hms38_3 := NB215_202.out
                  have hs39 : w33.cell? ⟨gb215, 5, none⟩ = some (.int .u64 0) := (blk_cell BK215.out 5).trans rfl
                  have hfs39 := blk_frozen BK215.out 5
                  have hns39_0 := NB190_215.out
                  have hns39_1 := NB191_215.out
                  have hns39_2 := NB194_215.out
                  have hns39_3 := NB202_215.out
                  have hms39_0 := NB215_190.out
                  have hms39_1 := NB215_191.out
                  have hms39_2 := NB215_194.out
                  have hms39_3 := NB215_202.out
                  refine skip_ (w1 := ?_) (by rfl) rfl ?_ ?_
                  rotate_left
                  · go_simp
                    rfl
                  refine hK.out _ _ ⟨?hh0_, ?hh1_, ?hh2_, ?hh3_, ?hh4_, ?hh5_, ?hh6_, ?hh7_, ?hh8_, ?hh9_, ?hh10_, ?hh11_⟩ (fun hHeld => ?_)
                  case hh0_ =>
                    have hfF_ : ∀ (W_ : World) (a_ : Addr) (i_ : Nat) (u_ : Value), a_.block ≠ gb215 → (W_.setCell ⟨gb215, i_, none⟩ u_).cell? a_ = W_.cell? a_ := fun W_ a_ i_ u_ h_ => cell_far (p := ⟨gb215, i_, none⟩) h_ u_
                    have hqF_ := NB191_215.out
                    simp only [hfF_, ne_eq, hqF_, not_false_eq_true]
                    exact hHeld.1
                  case hh1_ =>
                    have hfF_ : ∀ (W_ : World) (a_ : Addr) (i_ : Nat) (u_ : Value), a_.block ≠ gb215 → (W_.setCell ⟨gb215, i_, none⟩ u_).cell? a_ = W_.cell? a_ := fun W_ a_ i_ u_ h_ => cell_far (p := ⟨gb215, i_, none⟩) h_ u_
                    have hqF_ := NB191_215.out
                    simp only [hfF_, ne_eq, hqF_, not_false_eq_true]
                    exact hHeld.2.1
                  case hh2_ =>
                    have hfF_ : ∀ (W_ : World) (a_ : Addr) (i_ : Nat) (u_ : Value), a_.block ≠ gb215 → (W_.setCell ⟨gb215, i_, none⟩ u_).cell? a_ = W_.cell? a_ := fun W_ a_ i_ u_ h_ => cell_far (p := ⟨gb215, i_, none⟩) h_ u_
                    have hqF_ := NB191_215.out
                    simp only [hfF_, ne_eq, hqF_, not_false_eq_true]
                    exact hHeld.2.2.1
                  case hh3_ =>
                    have hfF_ : ∀ (W_ : World) (a_ : Addr) (i_ : Nat) (u_ : Value), a_.block ≠ gb215 → (W_.setCell ⟨gb215, i_, none⟩ u_).cell? a_ = W_.cell? a_ := fun W_ a_ i_ u_ h_ => cell_far (p := ⟨gb215, i_, none⟩) h_ u_
                    have hqF_ := NB191_215.out
                    simp only [hfF_, ne_eq, hqF_, not_false_eq_true]
                    exact hHeld.2.2.2.1
                  case hh4_ =>
                    have hfF_ : ∀ (W_ : World) (a_ : Addr) (i_ : Nat) (u_ : Value), a_.block ≠ gb215 → (W_.setCell ⟨gb215, i_, none⟩ u_).cell? a_ = W_.cell? a_ := fun W_ a_ i_ u_ h_ => cell_far (p := ⟨gb215, i_, none⟩) h_ u_
                    have hqF_ := NB191_215.out
                    simp only [hfF_, ne_eq, hqF_, not_false_eq_true]
                    exact hHeld.2.2.2.2.1
                  case hh5_ =>
                    have hfF_ : ∀ (W_ : World) (a_ : Addr) (i_ : Nat) (u_ : Value), a_.block ≠ gb215 → (W_.setCell ⟨gb215, i_, none⟩ u_).cell? a_ = W_.cell? a_ := fun W_ a_ i_ u_ h_ => cell_far (p := ⟨gb215, i_, none⟩) h_ u_
                    have hqF_ := NB191_215.out
                    simp only [hfF_, ne_eq, hqF_, not_false_eq_true]
                    exact hHeld.2.2.2.2.2.1
                  case hh6_ =>
                    have hfF_ : ∀ (W_ : World) (a_ : Addr) (i_ : Nat) (u_ : Value), a_.block ≠ gb215 → (W_.setCell ⟨gb215, i_, none⟩ u_).cell? a_ = W_.cell? a_ := fun W_ a_ i_ u_ h_ => cell_far (p := ⟨gb215, i_, none⟩) h_ u_
                    have hqF_ := NB194_215.out
                    simp only [hfF_, ne_eq, hqF_, not_false_eq_true]
                    exact hHeld.2.2.2.2.2.2.1
                  case hh7_ =>
                    have hfF_ : ∀ (W_ : World) (a_ : Addr) (i_ : Nat) (u_ : Value), a_.block ≠ gb215 → (W_.setCell ⟨gb215, i_, none⟩ u_).cell? a_ = W_.cell? a_ := fun W_ a_ i_ u_ h_ => cell_far (p := ⟨gb215, i_, none⟩) h_ u_
                    have hqF_ := NB194_215.out
                    simp only [hfF_, ne_eq, hqF_, not_false_eq_true]
                    exact hHeld.2.2.2.2.2.2.2.1
                  case hh8_ =>
                    have hfF_ : ∀ (W_ : World) (a_ : Addr) (i_ : Nat) (u_ : Value), a_.block ≠ gb215 → (W_.setCell ⟨gb215, i_, none⟩ u_).cell? a_ = W_.cell? a_ := fun W_ a_ i_ u_ h_ => cell_far (p := ⟨gb215, i_, none⟩) h_ u_
                    have hqF_ := NB194_215.out
                    simp only [hfF_, ne_eq, hqF_, not_false_eq_true]
                    exact hHeld.2.2.2.2.2.2.2.2.1
                  case hh9_ =>
                    have hfF_ : ∀ (W_ : World) (a_ : Addr) (i_ : Nat) (u_ : Value), a_.block ≠ gb215 → (W_.setCell ⟨gb215, i_, none⟩ u_).cell? a_ = W_.cell? a_ := fun W_ a_ i_ u_ h_ => cell_far (p := ⟨gb215, i_, none⟩) h_ u_
                    have hqF_ := NB194_215.out
                    simp only [hfF_, ne_eq, hqF_, not_false_eq_true]
                    exact hHeld.2.2.2.2.2.2.2.2.2.1
                  case hh10_ =>
                    have hfF_ : ∀ (W_ : World) (a_ : Addr) (i_ : Nat) (u_ : Value), a_.block ≠ gb215 → (W_.setCell ⟨gb215, i_, none⟩ u_).cell? a_ = W_.cell? a_ := fun W_ a_ i_ u_ h_ => cell_far (p := ⟨gb215, i_, none⟩) h_ u_
                    have hqF_ := NB194_215.out
                    simp only [hfF_, ne_eq, hqF_, not_false_eq_true]
                    exact hHeld.2.2.2.2.2.2.2.2.2.2.1
                  case hh11_ =>
                    have hfF_ : ∀ (W_ : World) (a_ : Addr) (i_ : Nat) (u_ : Value), a_.block ≠ gb215 → (W_.setCell ⟨gb215, i_, none⟩ u_).cell? a_ = W_.cell? a_ := fun W_ a_ i_ u_ h_ => cell_far (p := ⟨gb215, i_, none⟩) h_ u_
                    have hqF_ := NB194_215.out
                    simp only [hfF_, ne_eq, hqF_, not_false_eq_true]
                    exact hHeld.2.2.2.2.2.2.2.2.2.2.2
                  clear hK K
                  refine pure_ (i := 12) (N := some 10) (v := ?_) (a' := ?_) #[true, true, true, true, true, true, true, true, true, true, true, true, true] rfl rfl (any_of HT_.out (by kernel_rfl)) (fun _ _ _ h => h) (Or.inl ⟨by rfl, ?_⟩) ?_ ?_
                  rotate_left
                  · intro w'
                    go_simp
                    with_reducible rfl
                  rotate_left
                  · simp only [Act.put, List.setIfInBounds_toArray, List.set_cons_zero, List.set_cons_succ, i64_w, i32_w]
                    rfl
                  refine done_ (done_of HT_.out (by kernel_rfl)) ?_
                  try go_wp2
                  have n0_ : Aside0 (((((((w33.setCell ⟨gb215, 0, none⟩ (.bool t208)).setCell ⟨gb215, 1, none⟩ (.bool t209)).setCell ⟨gb215, 2, none⟩ (.int .u64 t210)).setCell ⟨gb215, 3, none⟩ (.bool t211)).setCell ⟨gb215, 4, none⟩ (.bool t212)).setCell ⟨gb215, 5, none⟩ (.int .u64 t213)).heap[gb190]? = some (.cells #[.bool x191000_1, .bool x191001_1, .int .u64 x191002_1, .bool x191003_1, .bool x191004_1, .int .u64 x191005_1] 29 (0, 0))) := ⟨by (with_reducible repeat (first | refine blk_drewN ?_ _ | refine blk_drew ?_ | refine blk_alloc ?_ _)); refine blk_far ?_ NB190_215.out _; (with_reducible repeat (first | refine blk_drewN ?_ _ | refine blk_drew ?_ | refine blk_alloc ?_ _)); refine blk_far ?_ NB190_215.out _; (with_reducible repeat (first | refine blk_drewN ?_ _ | refine blk_drew ?_ | refine blk_alloc ?_ _)); refine blk_far ?_ NB190_215.out _; (with_reducible repeat (first | refine blk_drewN ?_ _ | refine blk_drew ?_ | refine blk_alloc ?_ _)); refine blk_far ?_ NB190_215.out _; (with_reducible repeat (first | refine blk_drewN ?_ _ | refine blk_drew ?_ | refine blk_alloc ?_ _)); refine blk_far ?_ NB190_215.out _; (with_reducible repeat (first | refine blk_drewN ?_ _ | refine blk_drew ?_ | refine blk_alloc ?_ _)); refine blk_far ?_ NB190_215.out _; (with_reducible repeat (first | refine blk_drewN ?_ _ | refine blk_drew ?_ | refine blk_alloc ?_ _)); exact BK190.out⟩
                  have n1_ : Aside0 (((((((w33.setCell ⟨gb215, 0, none⟩ (.bool t208)).setCell ⟨gb215, 1, none⟩ (.bool t209)).setCell ⟨gb215, 2, none⟩ (.int .u64 t210)).setCell ⟨gb215, 3, none⟩ (.bool t211)).setCell ⟨gb215, 4, none⟩ (.bool t212)).setCell ⟨gb215, 5, none⟩ (.int .u64 t213)).heap[gb191]? = some (.cells #[.bool x192000_1, .bool x192001_1, .int .u64 x192002_1, .bool x192003_1, .bool x192004_1, .int .u64 x192005_1] 32 (0, 0))) := ⟨by (with_reducible repeat (first | refine blk_drewN ?_ _ | refine blk_drew ?_ | refine blk_alloc ?_ _)); refine blk_far ?_ NB191_215.out _; (with_reducible repeat (first | refine blk_drewN ?_ _ | refine blk_drew ?_ | refine blk_alloc ?_ _)); refine blk_far ?_ NB191_215.out _; (with_reducible repeat (first | refine blk_drewN ?_ _ | refine blk_drew ?_ | refine blk_alloc ?_ _)); refine blk_far ?_ NB191_215.out _; (with_reducible repeat (first | refine blk_drewN ?_ _ | refine blk_drew ?_ | refine blk_alloc ?_ _)); refine blk_far ?_ NB191_215.out _; (with_reducible repeat (first | refine blk_drewN ?_ _ | refine blk_drew ?_ | refine blk_alloc ?_ _)); refine blk_far ?_ NB191_215.out _; (with_reducible repeat (first | refine blk_drewN ?_ _ | refine blk_drew ?_ | refine blk_alloc ?_ _)); refine blk_far ?_ NB191_215.out _; (with_reducible repeat (first | refine blk_drewN ?_ _ | refine blk_drew ?_ | refine blk_alloc ?_ _)); exact BK191.out⟩
                  have n2_ : Aside0 (((((((w33.setCell ⟨gb215, 0, none⟩ (.bool t208)).setCell ⟨gb215, 1, none⟩ (.bool t209)).setCell ⟨gb215, 2, none⟩ (.int .u64 t210)).setCell ⟨gb215, 3, none⟩ (.bool t211)).setCell ⟨gb215, 4, none⟩ (.bool t212)).setCell ⟨gb215, 5, none⟩ (.int .u64 t213)).heap[gb194]? = some (.cells #[.int .i64 ((rd_T37 l0 x17_1).f0), .int .u8 ((rd_T37 l0 x17_1).f1.f0), .bool ((rd_T37 l0 x17_1).f1.f1), .bool ((rd_T37 l0 x17_1).f1.f2), .bool ((rd_T37 l0 x17_1).f1.f3), .int .u64 ((rd_T37 l0 x17_1).f1.f4)] 37 (0, 0))) := ⟨by (with_reducible repeat (first | refine blk_drewN ?_ _ | refine blk_drew ?_ | refine blk_alloc ?_ _)); refine blk_far ?_ NB194_215.out _; (with_reducible repeat (first | refine blk_drewN ?_ _ | refine blk_drew ?_ | refine blk_alloc ?_ _)); refine blk_far ?_ NB194_215.out _; (with_reducible repeat (first | refine blk_drewN ?_ _ | refine blk_drew ?_ | refine blk_alloc ?_ _)); refine blk_far ?_ NB194_215.out _; (with_reducible repeat (first | refine blk_drewN ?_ _ | refine blk_drew ?_ | refine blk_alloc ?_ _)); refine blk_far ?_ NB194_215.out _; (with_reducible repeat (first | refine blk_drewN ?_ _ | refine blk_drew ?_ | refine blk_alloc ?_ _)); refine blk_far ?_ NB194_215.out _; (with_reducible repeat (first | refine blk_drewN ?_ _ | refine blk_drew ?_ | refine blk_alloc ?_ _)); refine blk_far ?_ NB194_215.out _; (with_reducible repeat (first | refine blk_drewN ?_ _ | refine blk_drew ?_ | refine blk_alloc ?_ _)); exact BK194.out⟩
                  have n3_ : Aside0 (((((((w33.setCell ⟨gb215, 0, none⟩ (.bool t208)).setCell ⟨gb215, 1, none⟩ (.bool t209)).setCell ⟨gb215, 2, none⟩ (.int .u64 t210)).setCell ⟨gb215, 3, none⟩ (.bool t211)).setCell ⟨gb215, 4, none⟩ (.bool t212)).setCell ⟨gb215, 5, none⟩ (.int .u64 t213)).heap[gb202]? = some (.cells #[.bool t195, .bool t196, .int .u64 t197, .bool t198, .bool t199, .int .u64 t200] 29 (0, 0))) := ⟨by (with_reducible repeat (first | refine blk_drewN ?_ _ | refine blk_drew ?_ | refine blk_alloc ?_ _)); refine blk_far ?_ NB202_215.out _; (with_reducible repeat (first | refine blk_drewN ?_ _ | refine blk_drew ?_ | refine blk_alloc ?_ _)); refine blk_far ?_ NB202_215.out _; (with_reducible repeat (first | refine blk_drewN ?_ _ | refine blk_drew ?_ | refine blk_alloc ?_ _)); refine blk_far ?_ NB202_215.out _; (with_reducible repeat (first | refine blk_drewN ?_ _ | refine blk_drew ?_ | refine blk_alloc ?_ _)); refine blk_far ?_ NB202_215.out _; (with_reducible repeat (first | refine blk_drewN ?_ _ | refine blk_drew ?_ | refine blk_alloc ?_ _)); refine blk_far ?_ NB202_215.out _; (with_reducible repeat (first | refine blk_drewN ?_ _ | refine blk_drew ?_ | refine blk_alloc ?_ _)); refine blk_far ?_ NB202_215.out _; (with_reducible repeat (first | refine blk_drewN ?_ _ | refine blk_drew ?_ | refine blk_alloc ?_ _)); exact BK202.out⟩
                  have n4_ : Aside0 (((((((w33.setCell ⟨gb215, 0, none⟩ (.bool t208)).setCell ⟨gb215, 1, none⟩ (.bool t209)).setCell ⟨gb215, 2, none⟩ (.int .u64 t210)).setCell ⟨gb215, 3, none⟩ (.bool t211)).setCell ⟨gb215, 4, none⟩ (.bool t212)).setCell ⟨gb215, 5, none⟩ (.int .u64 t213)).heap[gb215]? = some (.cells #[.bool t208, .bool t209, .int .u64 t210, .bool t211, .bool t212, .int .u64 t213] 32 (0, 0))) := ⟨by (with_reducible repeat (first | refine blk_drewN ?_ _ | refine blk_drew ?_ | refine blk_alloc ?_ _)); refine blk_put (cs := #[.bool t208, .bool t209, .int .u64 t210, .bool t211, .bool t212, .int .u64 0]) ?_ 5 _ rfl; (with_reducible repeat (first | refine blk_drewN ?_ _ | refine blk_drew ?_ | refine blk_alloc ?_ _)); refine blk_put (cs := #[.bool t208, .bool t209, .int .u64 t210, .bool t211, .bool false, .int .u64 0]) ?_ 4 _ rfl; (with_reducible repeat (first | refine blk_drewN ?_ _ | refine blk_drew ?_ | refine blk_alloc ?_ _)); refine blk_put (cs := #[.bool t208, .bool t209, .int .u64 t210, .bool false, .bool false, .int .u64 0]) ?_ 3 _ rfl; (with_reducible repeat (first | refine blk_drewN ?_ _ | refine blk_drew ?_ | refine blk_alloc ?_ _)); refine blk_put (cs := #[.bool t208, .bool t209, .int .u64 0, .bool false, .bool false, .int .u64 0]) ?_ 2 _ rfl; (with_reducible repeat (first | refine blk_drewN ?_ _ | refine blk_drew ?_ | refine blk_alloc ?_ _)); refine blk_put (cs := #[.bool t208, .bool false, .int .u64 0, .bool false, .bool false, .int .u64 0]) ?_ 1 _ rfl; (with_reducible repeat (first | refine blk_drewN ?_ _ | refine blk_drew ?_ | refine blk_alloc ?_ _)); refine blk_put (cs := #[.bool false, .bool false, .int .u64 0, .bool false, .bool false, .int .u64 0]) ?_ 0 _ rfl; (with_reducible repeat (first | refine blk_drewN ?_ _ | refine blk_drew ?_ | refine blk_alloc ?_ _)); exact BK215.out⟩
                  have n5_ : Aside0 (Below w.heap.size w ((((((w33.setCell ⟨gb215, 0, none⟩ (.bool t208)).setCell ⟨gb215, 1, none⟩ (.bool t209)).setCell ⟨gb215, 2, none⟩ (.int .u64 t210)).setCell ⟨gb215, 3, none⟩ (.bool t211)).setCell ⟨gb215, 4, none⟩ (.bool t212)).setCell ⟨gb215, 5, none⟩ (.int .u64 t213))) := ⟨by repeat (first | (with_reducible first | exact HB.out | apply below_alloc | apply pw_below_drewN | apply below_drew1 | refine below_set ?_ GE190.out | refine below_set ?_ GE191.out | refine below_set ?_ GE194.out | refine below_set ?_ GE202.out | refine below_set ?_ GE215.out) | exact HB.out)⟩
                  (try clear BK190)
                  (try clear BK191)
                  (try clear BK194)
                  (try clear BK202)
                  (try clear BK215)
                  (try clear HB)
                  generalize ((((((w33.setCell ⟨gb215, 0, none⟩ (.bool t208)).setCell ⟨gb215, 1, none⟩ (.bool t209)).setCell ⟨gb215, 2, none⟩ (.int .u64 t210)).setCell ⟨gb215, 3, none⟩ (.bool t211)).setCell ⟨gb215, 4, none⟩ (.bool t212)).setCell ⟨gb215, 5, none⟩ (.int .u64 t213)) = w40 at n0_ n1_ n2_ n3_ n4_ n5_ ⊢
                  have BK190 := n0_
                  have BK191 := n1_
                  have BK194 := n2_
                  have BK202 := n3_
                  have BK215 := n4_
                  have HB := n5_
                  clear n0_ n1_ n2_ n3_ n4_ n5_
                  have n0_ := Aside0.mk (blk_drew BK190.out)
                  have n1_ := Aside0.mk (blk_drew BK191.out)
                  have n2_ := Aside0.mk (blk_drew BK194.out)
                  have n3_ := Aside0.mk (blk_drew BK202.out)
                  have n4_ := Aside0.mk (blk_drew BK215.out)
                  have n5_ := Aside0.mk (below_drew1 HB.out)
                  clear BK190
                  clear BK191
                  clear BK194
                  clear BK202
                  clear BK215
                  clear HB
                  have BK190 := n0_
                  have BK191 := n1_
                  have BK194 := n2_
                  have BK202 := n3_
                  have BK215 := n4_
                  have HB := n5_
                  clear n0_ n1_ n2_ n3_ n4_ n5_
                  refine start_ (n := 4) (S := fun w' => w'.cell? ⟨gb202, 0, none⟩ = some (.bool t195) ∧ w'.cell? ⟨gb202, 1, none⟩ = some (.bool t196) ∧ w'.cell? ⟨gb202, 2, none⟩ = some (.int .u64 t197) ∧ w'.cell? ⟨gb202, 3, none⟩ = some (.bool t198) ∧ w'.cell? ⟨gb202, 4, none⟩ = some (.bool t199) ∧ w'.cell? ⟨gb202, 5, none⟩ = some (.int .u64 t200) ∧ w'.cell? ⟨gb215, 0, none⟩ = some (.bool t208) ∧ w'.cell? ⟨gb215, 1, none⟩ = some (.bool t209) ∧ w'.cell? ⟨gb215, 2, none⟩ = some (.int .u64 t210) ∧ w'.cell? ⟨gb215, 3, none⟩ = some (.bool t211) ∧ w'.cell? ⟨gb215, 4, none⟩ = some (.bool t212) ∧ w'.cell? ⟨gb215, 5, none⟩ = some (.int .u64 t213)) (ds := []) #[false, false, false, false] (by kernel_rfl) rfl rfl ⟨(blk_cell BK202.out 0).trans rfl, (blk_cell BK202.out 1).trans rfl, (blk_cell BK202.out 2).trans rfl, (blk_cell BK202.out 3).trans rfl, (blk_cell BK202.out 4).trans rfl, (blk_cell BK202.out 5).trans rfl, (blk_cell BK215.out 0).trans rfl, (blk_cell BK215.out 1).trans rfl, (blk_cell BK215.out 2).trans rfl, (blk_cell BK215.out 3).trans rfl, (blk_cell BK215.out 4).trans rfl, (blk_cell BK215.out 5).trans rfl⟩ (fun hHeld => ?_)
                  generalize w40.drew = w41 at BK190 BK191 BK194 BK202 BK215 HB hHeld ⊢
                  refine take_ (i := 0) (N := some 40) (v := ?_) (a' := ?_) #[true, false, false, false] rfl rfl (by kernel_rfl) (fun _ _ _ h => h) (Or.inl ⟨by rfl, ?_⟩) hHeld ?_ ?_
                  rotate_left
                  · rintro w' ⟨s0, s1, s2, s3, s4, s5, s6, s7, s8, s9, s10, s11⟩
                    go_simp
                    with_reducible rfl
                  rotate_left
                  · simp only [Act.put, List.setIfInBounds_toArray, List.set_cons_zero, List.set_cons_succ, i64_w, i32_w]
                    rfl
                  refine take_ (i := 1) (N := some 41) (v := ?_) (a' := ?_) #[true, true, false, false] rfl rfl (by kernel_rfl) (fun _ _ _ h => h) (Or.inl ⟨by rfl, ?_⟩) hHeld ?_ ?_
                  rotate_left
                  · rintro w' ⟨s0, s1, s2, s3, s4, s5, s6, s7, s8, s9, s10, s11⟩
                    go_simp
                    with_reducible rfl
                  rotate_left
                  · simp only [Act.put, List.setIfInBounds_toArray, List.set_cons_zero, List.set_cons_succ, i64_w, i32_w]
                    rfl
                  refine one_ (i := 2) (N := none) #[true, true, true, false] rfl rfl (by kernel_rfl) (by decide) (fun K hK => ?_)
                  have hs42 : w41.cell? ⟨gb190, 0, none⟩ = some (.bool x191000_1) := (blk_cell BK190.out 0).trans rfl
                  have hfs42 := blk_frozen BK190.out 0
                  have hns42_1 := NB191_190.out
                  have hns42_2 := NB194_190.out
                  have hns42_3 := NB202_190.out
                  have hns42_4 := NB215_190.out
                  have hms42_1 := NB190_191.out
                  have hms42_2 := NB190_194.out
                  have hms42_3 := NB190_202.out
                  have hms42_4 := NB190_215.out
                  have hs43 : w41.cell? ⟨gb190, 1, none⟩ = some (.bool x191001_1) := (blk_cell BK190.out 1).trans rfl
                  have hfs43 := blk_frozen BK190.out 1
                  have hns43_1 := NB191_190.out
                  have hns43_2 := NB194_190.out
                  have hns43_3 := NB202_190.out
                  have hns43_4 := NB215_190.out
                  have hms43_1 := NB190_191.out
                  have hms43_2 := NB190_194.out
                  have hms43_3 := NB190_202.out
                  have hms43_4 := NB190_215.out
                  have hs44 : w41.cell? ⟨gb190, 2, none⟩ = some (.int .u64 x191002_1) := (blk_cell BK190.out 2).trans rfl
                  have hfs44 := blk_frozen BK190.out 2
                  have hns44_1 := NB191_190.out
                  have hns44_2 := NB194_190.out
                  have hns44_3 := NB202_190.out
                  have hns44_4 := NB215_190.out
                  have hms44_1 := NB190_191.out
                  have hms44_2 := NB190_194.out
                  have hms44_3 := NB190_202.out
                  have hms44_4 := NB190_215.out
                  have hs45 : w41.cell? ⟨gb190, 3, none⟩ = some (.bool x191003_1) := (blk_cell BK190.out 3).trans rfl
                  have hfs45 := blk_frozen BK190.out 3
                  have hns45_1 := NB191_190.out
                  have hns45_2 := NB194_190.out
                  have hns45_3 := NB202_190.out
                  have hns45_4 := NB215_190.out
                  have hms45_1 := NB190_191.out
                  have hms45_2 := NB190_194.out
                  have hms45_3 := NB190_202.out
                  have hms45_4 := NB190_215.out
                  have hs46 : w41.cell? ⟨gb190, 4, none⟩ = some (.bool x191004_1) := (blk_cell BK190.out 4).trans rfl
                  have hfs46 := blk_frozen BK190.out 4
                  have hns46_1 := NB191_190.out
                  have hns46_2 := NB194_190.out
                  have hns46_3 := NB202_190.out
                  have hns46_4 := NB215_190.out
                  have hms46_1 := NB190_191.out
                  have hms46_2 := NB190_194.out
                  have hms46_3 := NB190_202.out
                  have hms46_4 := NB190_215.out
                  have hs47 : w41.cell? ⟨gb190, 5, none⟩ = some (.int .u64 x191005_1) := (blk_cell BK190.out 5).trans rfl
                  have hfs47 := blk_frozen BK190.out 5
                  have hns47_1 := NB191_190.out
                  have hns47_2 := NB194_190.out
                  have hns47_3 := NB202_190.out
                  have hns47_4 := NB215_190.out
                  have hms47_1 := NB190_191.out
                  have hms47_2 := NB190_194.out
                  have hms47_3 := NB190_202.out
                  have hms47_4 := NB190_215.out
                  refine skip_ (w1 := ?_) (by rfl) rfl ?_ ?_
                  rotate_left
                  · go_simp
                    rfl
                  refine hK.out _ _ ⟨?hh0_, ?hh1_, ?hh2_, ?hh3_, ?hh4_, ?hh5_, ?hh6_, ?hh7_, ?hh8_, ?hh9_, ?hh10_, ?hh11_⟩ (fun hHeld => ?_)
                  case hh0_ =>
                    have hfF_ : ∀ (W_ : World) (a_ : Addr) (i_ : Nat) (u_ : Value), a_.block ≠ gb190 → (W_.setCell ⟨gb190, i_, none⟩ u_).cell? a_ = W_.cell? a_ := fun W_ a_ i_ u_ h_ => cell_far (p := ⟨gb190, i_, none⟩) h_ u_
                    have hqF_ := NB202_190.out
                    simp only [hfF_, ne_eq, hqF_, not_false_eq_true]
                    exact hHeld.1
                  case hh1_ =>
                    have hfF_ : ∀ (W_ : World) (a_ : Addr) (i_ : Nat) (u_ : Value), a_.block ≠ gb190 → (W_.setCell ⟨gb190, i_, none⟩ u_).cell? a_ = W_.cell? a_ := fun W_ a_ i_ u_ h_ => cell_far (p := ⟨gb190, i_, none⟩) h_ u_
                    have hqF_ := NB202_190.out
                    simp only [hfF_, ne_eq, hqF_, not_false_eq_true]
                    exact hHeld.2.1
                  case hh2_ =>
                    have hfF_ : ∀ (W_ : World) (a_ : Addr) (i_ : Nat) (u_ : Value), a_.block ≠ gb190 → (W_.setCell ⟨gb190, i_, none⟩ u_).cell? a_ = W_.cell? a_ := fun W_ a_ i_ u_ h_ => cell_far (p := ⟨gb190, i_, none⟩) h_ u_
                    have hqF_ := NB202_190.out
                    simp only [hfF_, ne_eq, hqF_, not_false_eq_true]
                    exact hHeld.2.2.1
                  case hh3_ =>
                    have hfF_ : ∀ (W_ : World) (a_ : Addr) (i_ : Nat) (u_ : Value), a_.block ≠ gb190 → (W_.setCell ⟨gb190, i_, none⟩ u_).cell? a_ = W_.cell? a_ := fun W_ a_ i_ u_ h_ => cell_far (p := ⟨gb190, i_, none⟩) h_ u_
                    have hqF_ := NB202_190.out
                    simp only [hfF_, ne_eq, hqF_, not_false_eq_true]
                    exact hHeld.2.2.2.1
                  case hh4_ =>
                    have hfF_ : ∀ (W_ : World) (a_ : Addr) (i_ : Nat) (u_ : Value), a_.block ≠ gb190 → (W_.setCell ⟨gb190, i_, none⟩ u_).cell? a_ = W_.cell? a_ := fun W_ a_ i_ u_ h_ => cell_far (p := ⟨gb190, i_, none⟩) h_ u_
                    have hqF_ := NB202_190.out
                    simp only [hfF_, ne_eq, hqF_, not_false_eq_true]
                    exact hHeld.2.2.2.2.1
                  case hh5_ =>
                    have hfF_ : ∀ (W_ : World) (a_ : Addr) (i_ : Nat) (u_ : Value), a_.block ≠ gb190 → (W_.setCell ⟨gb190, i_, none⟩ u_).cell? a_ = W_.cell? a_ := fun W_ a_ i_ u_ h_ => cell_far (p := ⟨gb190, i_, none⟩) h_ u_
                    have hqF_ := NB202_190.out
                    simp only [hfF_, ne_eq, hqF_, not_false_eq_true]
                    exact hHeld.2.2.2.2.2.1
                  case hh6_ =>
                    have hfF_ : ∀ (W_ : World) (a_ : Addr) (i_ : Nat) (u_ : Value), a_.block ≠ gb190 → (W_.setCell ⟨gb190, i_, none⟩ u_).cell? a_ = W_.cell? a_ := fun W_ a_ i_ u_ h_ => cell_far (p := ⟨gb190, i_, none⟩) h_ u_
                    have hqF_ := NB215_190.out
                    simp only [hfF_, ne_eq, hqF_, not_false_eq_true]
                    exact hHeld.2.2.2.2.2.2.1
                  case hh7_ =>
                    have hfF_ : ∀ (W_ : World) (a_ : Addr) (i_ : Nat) (u_ : Value), a_.block ≠ gb190 → (W_.setCell ⟨gb190, i_, none⟩ u_).cell? a_ = W_.cell? a_ := fun W_ a_ i_ u_ h_ => cell_far (p := ⟨gb190, i_, none⟩) h_ u_
                    have hqF_ := NB215_190.out
                    simp only [hfF_, ne_eq, hqF_, not_false_eq_true]
                    exact hHeld.2.2.2.2.2.2.2.1
                  case hh8_ =>
                    have hfF_ : ∀ (W_ : World) (a_ : Addr) (i_ : Nat) (u_ : Value), a_.block ≠ gb190 → (W_.setCell ⟨gb190, i_, none⟩ u_).cell? a_ = W_.cell? a_ := fun W_ a_ i_ u_ h_ => cell_far (p := ⟨gb190, i_, none⟩) h_ u_
                    have hqF_ := NB215_190.out
                    simp only [hfF_, ne_eq, hqF_, not_false_eq_true]
                    exact hHeld.2.2.2.2.2.2.2.2.1
                  case hh9_ =>
                    have hfF_ : ∀ (W_ : World) (a_ : Addr) (i_ : Nat) (u_ : Value), a_.block ≠ gb190 → (W_.setCell ⟨gb190, i_, none⟩ u_).cell? a_ = W_.cell? a_ := fun W_ a_ i_ u_ h_ => cell_far (p := ⟨gb190, i_, none⟩) h_ u_
                    have hqF_ := NB215_190.out
                    simp only [hfF_, ne_eq, hqF_, not_false_eq_true]
                    exact hHeld.2.2.2.2.2.2.2.2.2.1
                  case hh10_ =>
                    have hfF_ : ∀ (W_ : World) (a_ : Addr) (i_ : Nat) (u_ : Value), a_.block ≠ gb190 → (W_.setCell ⟨gb190, i_, none⟩ u_).cell? a_ = W_.cell? a_ := fun W_ a_ i_ u_ h_ => cell_far (p := ⟨gb190, i_, none⟩) h_ u_
                    have hqF_ := NB215_190.out
                    simp only [hfF_, ne_eq, hqF_, not_false_eq_true]
                    exact hHeld.2.2.2.2.2.2.2.2.2.2.1
                  case hh11_ =>
                    have hfF_ : ∀ (W_ : World) (a_ : Addr) (i_ : Nat) (u_ : Value), a_.block ≠ gb190 → (W_.setCell ⟨gb190, i_, none⟩ u_).cell? a_ = W_.cell? a_ := fun W_ a_ i_ u_ h_ => cell_far (p := ⟨gb190, i_, none⟩) h_ u_
                    have hqF_ := NB215_190.out
                    simp only [hfF_, ne_eq, hqF_, not_false_eq_true]
                    exact hHeld.2.2.2.2.2.2.2.2.2.2.2
                  clear hK K
                  refine one_ (i := 3) (N := none) #[true, true, true, true] rfl rfl (by kernel_rfl) (by decide) (fun K hK => ?_)
                  have hs48 : w41.cell? ⟨gb191, 0, none⟩ = some (.bool x192000_1) := (blk_cell BK191.out 0).trans rfl
                  have hfs48 := blk_frozen BK191.out 0
                  have hns48_0 := NB190_191.out
                  have hns48_2 := NB194_191.out
                  have hns48_3 := NB202_191.out
                  have hns48_4 := NB215_191.out
                  have hms48_0 := NB191_190.out
                  have hms48_2 := NB191_194.out
                  have hms48_3 := NB191_202.out
                  have hms48_4 := NB191_215.out
                  have hs49 : w41.cell? ⟨gb191, 1, none⟩ = some (.bool x192001_1) := (blk_cell BK191.out 1).trans rfl
                  have hfs49 := blk_frozen BK191.out 1
                  have hns49_0 := NB190_191.out
                  have hns49_2 := NB194_191.out
                  have hns49_3 := NB202_191.out
                  have hns49_4 := NB215_191.out
                  have hms49_0 := NB191_190.out
                  have hms49_2 := NB191_194.out
                  have hms49_3 := NB191_202.out
                  have hms49_4 := NB191_215.out
                  have hs50 : w41.cell? ⟨gb191, 2, none⟩ = some (.int .u64 x192002_1) := (blk_cell BK191.out 2).trans rfl
                  have hfs50 := blk_frozen BK191.out 2
                  have hns50_0 := NB190_191.out
                  have hns50_2 := NB194_191.out
                  have hns50_3 := NB202_191.out
                  have hns50_4 := NB215_191.out
                  have hms50_0 := NB191_190.out
                  have hms50_2 := NB191_194.out
                  have hms50_3 := NB191_202.out
                  have hms50_4 := NB191_215.out
                  have hs51 : w41.cell? ⟨gb191, 3, none⟩ = some (.bool x192003_1) := (blk_cell BK191.out 3).trans rfl
                  have hfs51 := blk_frozen BK191.out 3
                  have hns51_0 := NB190_191.out
                  have hns51_2 := NB194_191.out
                  have hns51_3 := NB202_191.out
                  have hns51_4 := NB215_191.out
                  have hms51_0 := NB191_190.out
                  have hms51_2 := NB191_194.out
                  have hms51_3 := NB191_202.out
                  have hms51_4 := NB191_215.out
                  have hs52 : w41.cell? ⟨gb191, 4, none⟩ = some (.bool x192004_1) := (blk_cell BK191.out 4).trans rfl
                  have hfs52 := blk_frozen BK191.out 4
                  have hns52_0 := NB190_191.out
                  have hns52_2 := NB194_191.out
                  have hns52_3 := NB202_191.out
                  have hns52_4 := NB215_191.out
                  have hms52_0 := NB191_190.out
                  have hms52_2 := NB191_194.out
                  have hms52_3 := NB191_202.out
                  have hms52_4 := NB191_215.out
                  have hs53 : w41.cell? ⟨gb191, 5, none⟩ = some (.int .u64 x192005_1) := (blk_cell BK191.out 5).trans rfl
                  have hfs53 := blk_frozen BK191.out 5
                  have hns53_0 := NB190_191.out
                  have hns53_2 := NB194_191.out
                  have hns53_3 := NB202_191.out
                  have hns53_4 := NB215_191.out
                  have hms53_0 := NB191_190.out
                  have hms53_2 := NB191_194.out
                  have hms53_3 := NB191_202.out
                  have hms53_4 := NB191_215.out
                  refine skip_ (w1 := ?_) (by rfl) rfl ?_ ?_
                  rotate_left
                  · go_simp
                    rfl
                  refine hK.out _ _ ⟨?hh0_, ?hh1_, ?hh2_, ?hh3_, ?hh4_, ?hh5_, ?hh6_, ?hh7_, ?hh8_, ?hh9_, ?hh10_, ?hh11_⟩ (fun hHeld => ?_)
                  case hh0_ =>
                    have hfF_ : ∀ (W_ : World) (a_ : Addr) (i_ : Nat) (u_ : Value), a_.block ≠ gb191 → (W_.setCell ⟨gb191, i_, none⟩ u_).cell? a_ = W_.cell? a_ := fun W_ a_ i_ u_ h_ => cell_far (p := ⟨gb191, i_, none⟩) h_ u_
                    have hqF_ := NB202_191.out
                    simp only [hfF_, ne_eq, hqF_, not_false_eq_true]
                    exact hHeld.1
                  case hh1_ =>
                    have hfF_ : ∀ (W_ : World) (a_ : Addr) (i_ : Nat) (u_ : Value), a_.block ≠ gb191 → (W_.setCell ⟨gb191, i_, none⟩ u_).cell? a_ = W_.cell? a_ := fun W_ a_ i_ u_ h_ => cell_far (p := ⟨gb191, i_, none⟩) h_ u_
                    have hqF_ := NB202_191.out
                    simp only [hfF_, ne_eq, hqF_, not_false_eq_true]
                    exact hHeld.2.1
                  case hh2_ =>
                    have hfF_ : ∀ (W_ : World) (a_ : Addr) (i_ : Nat) (u_ : Value), a_.block ≠ gb191 → (W_.setCell ⟨gb191, i_, none⟩ u_).cell? a_ = W_.cell? a_ := fun W_ a_ i_ u_ h_ => cell_far (p := ⟨gb191, i_, none⟩) h_ u_
                    have hqF_ := NB202_191.out
                    simp only [hfF_, ne_eq, hqF_, not_false_eq_true]
                    exact hHeld.2.2.1
                  case hh3_ =>
                    have hfF_ : ∀ (W_ : World) (a_ : Addr) (i_ : Nat) (u_ : Value), a_.block ≠ gb191 → (W_.setCell ⟨gb191, i_, none⟩ u_).cell? a_ = W_.cell? a_ := fun W_ a_ i_ u_ h_ => cell_far (p := ⟨gb191, i_, none⟩) h_ u_
                    have hqF_ := NB202_191.out
                    simp only [hfF_, ne_eq, hqF_, not_false_eq_true]
                    exact hHeld.2.2.2.1
                  case hh4_ =>
                    have hfF_ : ∀ (W_ : World) (a_ : Addr) (i_ : Nat) (u_ : Value), a_.block ≠ gb191 → (W_.setCell ⟨gb191, i_, none⟩ u_).cell? a_ = W_.cell? a_ := fun W_ a_ i_ u_ h_ => cell_far (p := ⟨gb191, i_, none⟩) h_ u_
                    have hqF_ := NB202_191.out
                    simp only [hfF_, ne_eq, hqF_, not_false_eq_true]
                    exact hHeld.2.2.2.2.1
                  case hh5_ =>
                    have hfF_ : ∀ (W_ : World) (a_ : Addr) (i_ : Nat) (u_ : Value), a_.block ≠ gb191 → (W_.setCell ⟨gb191, i_, none⟩ u_).cell? a_ = W_.cell? a_ := fun W_ a_ i_ u_ h_ => cell_far (p := ⟨gb191, i_, none⟩) h_ u_
                    have hqF_ := NB202_191.out
                    simp only [hfF_, ne_eq, hqF_, not_false_eq_true]
                    exact hHeld.2.2.2.2.2.1
                  case hh6_ =>
                    have hfF_ : ∀ (W_ : World) (a_ : Addr) (i_ : Nat) (u_ : Value), a_.block ≠ gb191 → (W_.setCell ⟨gb191, i_, none⟩ u_).cell? a_ = W_.cell? a_ := fun W_ a_ i_ u_ h_ => cell_far (p := ⟨gb191, i_, none⟩) h_ u_
                    have hqF_ := NB215_191.out
                    simp only [hfF_, ne_eq, hqF_, not_false_eq_true]
                    exact hHeld.2.2.2.2.2.2.1
                  case hh7_ =>
                    have hfF_ : ∀ (W_ : World) (a_ : Addr) (i_ : Nat) (u_ : Value), a_.block ≠ gb191 → (W_.setCell ⟨gb191, i_, none⟩ u_).cell? a_ = W_.cell? a_ := fun W_ a_ i_ u_ h_ => cell_far (p := ⟨gb191, i_, none⟩) h_ u_
                    have hqF_ := NB215_191.out
                    simp only [hfF_, ne_eq, hqF_, not_false_eq_true]
                    exact hHeld.2.2.2.2.2.2.2.1
                  case hh8_ =>
                    have hfF_ : ∀ (W_ : World) (a_ : Addr) (i_ : Nat) (u_ : Value), a_.block ≠ gb191 → (W_.setCell ⟨gb191, i_, none⟩ u_).cell? a_ = W_.cell? a_ := fun W_ a_ i_ u_ h_ => cell_far (p := ⟨gb191, i_, none⟩) h_ u_
                    have hqF_ := NB215_191.out
                    simp only [hfF_, ne_eq, hqF_, not_false_eq_true]
                    exact hHeld.2.2.2.2.2.2.2.2.1
                  case hh9_ =>
                    have hfF_ : ∀ (W_ : World) (a_ : Addr) (i_ : Nat) (u_ : Value), a_.block ≠ gb191 → (W_.setCell ⟨gb191, i_, none⟩ u_).cell? a_ = W_.cell? a_ := fun W_ a_ i_ u_ h_ => cell_far (p := ⟨gb191, i_, none⟩) h_ u_
                    have hqF_ := NB215_191.out
                    simp only [hfF_, ne_eq, hqF_, not_false_eq_true]
                    exact hHeld.2.2.2.2.2.2.2.2.2.1
                  case hh10_ =>
                    have hfF_ : ∀ (W_ : World) (a_ : Addr) (i_ : Nat) (u_ : Value), a_.block ≠ gb191 → (W_.setCell ⟨gb191, i_, none⟩ u_).cell? a_ = W_.cell? a_ := fun W_ a_ i_ u_ h_ => cell_far (p := ⟨gb191, i_, none⟩) h_ u_
                    have hqF_ := NB215_191.out
                    simp only [hfF_, ne_eq, hqF_, not_false_eq_true]
                    exact hHeld.2.2.2.2.2.2.2.2.2.2.1
                  case hh11_ =>
                    have hfF_ : ∀ (W_ : World) (a_ : Addr) (i_ : Nat) (u_ : Value), a_.block ≠ gb191 → (W_.setCell ⟨gb191, i_, none⟩ u_).cell? a_ = W_.cell? a_ := fun W_ a_ i_ u_ h_ => cell_far (p := ⟨gb191, i_, none⟩) h_ u_
                    have hqF_ := NB215_191.out
                    simp only [hfF_, ne_eq, hqF_, not_false_eq_true]
                    exact hHeld.2.2.2.2.2.2.2.2.2.2.2
                  clear hK K
                  refine done_ (by kernel_rfl) ?_
                  try go_wp2
                  have n0_ : Aside0 (((((((((((((w41.setCell ⟨gb190, 0, none⟩ (.bool t195)).setCell ⟨gb190, 1, none⟩ (.bool t196)).setCell ⟨gb190, 2, none⟩ (.int .u64 t197)).setCell ⟨gb190, 3, none⟩ (.bool t198)).setCell ⟨gb190, 4, none⟩ (.bool t199)).setCell ⟨gb190, 5, none⟩ (.int .u64 t200)).setCell ⟨gb191, 0, none⟩ (.bool t208)).setCell ⟨gb191, 1, none⟩ (.bool t209)).setCell ⟨gb191, 2, none⟩ (.int .u64 t210)).setCell ⟨gb191, 3, none⟩ (.bool t211)).setCell ⟨gb191, 4, none⟩ (.bool t212)).setCell ⟨gb191, 5, none⟩ (.int .u64 t213)).heap[gb190]? = some (.cells #[.bool t195, .bool t196, .int .u64 t197, .bool t198, .bool t199, .int .u64 t200] 29 (0, 0))) := ⟨by (with_reducible repeat (first | refine blk_drewN ?_ _ | refine blk_drew ?_ | refine blk_alloc ?_ _)); refine blk_far ?_ NB190_191.out _; (with_reducible repeat (first | refine blk_drewN ?_ _ | refine blk_drew ?_ | refine blk_alloc ?_ _)); refine blk_far ?_ NB190_191.out _; (with_reducible repeat (first | refine blk_drewN ?_ _ | refine blk_drew ?_ | refine blk_alloc ?_ _)); refine blk_far ?_ NB190_191.out _; (with_reducible repeat (first | refine blk_drewN ?_ _ | refine blk_drew ?_ | refine blk_alloc ?_ _)); refine blk_far ?_ NB190_191.out _; (with_reducible repeat (first | refine blk_drewN ?_ _ | refine blk_drew ?_ | refine blk_alloc ?_ _)); refine blk_far ?_ NB190_191.out _; (with_reducible repeat (first | refine blk_drewN ?_ _ | refine blk_drew ?_ | refine blk_alloc ?_ _)); refine blk_far ?_ NB190_191.out _; (with_reducible repeat (first | refine blk_drewN ?_ _ | refine blk_drew ?_ | refine blk_alloc ?_ _)); refine blk_put (cs := #[.bool t195, .bool t196, .int .u64 t197, .bool t198, .bool t199, .int .u64 x191005_1]) ?_ 5 _ rfl; (with_reducible repeat (first | refine blk_drewN ?_ _ | refine blk_drew ?_ | refine blk_alloc ?_ _)); refine blk_put (cs := #[.bool t195, .bool t196, .int .u64 t197, .bool t198, .bool x191004_1, .int .u64 x191005_1]) ?_ 4 _ rfl; (with_reducible repeat (first | refine blk_drewN ?_ _ | refine blk_drew ?_ | refine blk_alloc ?_ _)); refine blk_put (cs := #[.bool t195, .bool t196, .int .u64 t197, .bool x191003_1, .bool x191004_1, .int .u64 x191005_1]) ?_ 3 _ rfl; (with_reducible repeat (first | refine blk_drewN ?_ _ | refine blk_drew ?_ | refine blk_alloc ?_ _)); refine blk_put (cs := #[.bool t195, .bool t196, .int .u64 x191002_1, .bool x191003_1, .bool x191004_1, .int .u64 x191005_1]) ?_ 2 _ rfl; (with_reducible repeat (first | refine blk_drewN ?_ _ | refine blk_drew ?_ | refine blk_alloc ?_ _)); refine blk_put (cs := #[.bool t195, .bool x191001_1, .int .u64 x191002_1, .bool x191003_1, .bool x191004_1, .int .u64 x191005_1]) ?_ 1 _ rfl; (with_reducible repeat (first | refine blk_drewN ?_ _ | refine blk_drew ?_ | refine blk_alloc ?_ _)); refine blk_put (cs := #[.bool x191000_1, .bool x191001_1, .int .u64 x191002_1, .bool x191003_1, .bool x191004_1, .int .u64 x191005_1]) ?_ 0 _ rfl; (with_reducible repeat (first | refine blk_drewN ?_ _ | refine blk_drew ?_ | refine blk_alloc ?_ _)); exact BK190.out⟩
                  have n1_ : Aside0 (((((((((((((w41.setCell ⟨gb190, 0, none⟩ (.bool t195)).setCell ⟨gb190, 1, none⟩ (.bool t196)).setCell ⟨gb190, 2, none⟩ (.int .u64 t197)).setCell ⟨gb190, 3, none⟩ (.bool t198)).setCell ⟨gb190, 4, none⟩ (.bool t199)).setCell ⟨gb190, 5, none⟩ (.int .u64 t200)).setCell ⟨gb191, 0, none⟩ (.bool t208)).setCell ⟨gb191, 1, none⟩ (.bool t209)).setCell ⟨gb191, 2, none⟩ (.int .u64 t210)).setCell ⟨gb191, 3, none⟩ (.bool t211)).setCell ⟨gb191, 4, none⟩ (.bool t212)).setCell ⟨gb191, 5, none⟩ (.int .u64 t213)).heap[gb191]? = some (.cells #[.bool t208, .bool t209, .int .u64 t210, .bool t211, .bool t212, .int .u64 t213] 32 (0, 0))) := ⟨by (with_reducible repeat (first | refine blk_drewN ?_ _ | refine blk_drew ?_ | refine blk_alloc ?_ _)); refine blk_put (cs := #[.bool t208, .bool t209, .int .u64 t210, .bool t211, .bool t212, .int .u64 x192005_1]) ?_ 5 _ rfl; (with_reducible repeat (first | refine blk_drewN ?_ _ | refine blk_drew ?_ | refine blk_alloc ?_ _)); refine blk_put (cs := #[.bool t208, .bool t209, .int .u64 t210, .bool t211, .bool x192004_1, .int .u64 x192005_1]) ?_ 4 _ rfl; (with_reducible repeat (first | refine blk_drewN ?_ _ | refine blk_drew ?_ | refine blk_alloc ?_ _)); refine blk_put (cs := #[.bool t208, .bool t209, .int .u64 t210, .bool x192003_1, .bool x192004_1, .int .u64 x192005_1]) ?_ 3 _ rfl; (with_reducible repeat (first | refine blk_drewN ?_ _ | refine blk_drew ?_ | refine blk_alloc ?_ _)); refine blk_put (cs := #[.bool t208, .bool t209, .int .u64 x192002_1, .bool x192003_1, .bool x192004_1, .int .u64 x192005_1]) ?_ 2 _ rfl; (with_reducible repeat (first | refine blk_drewN ?_ _ | refine blk_drew ?_ | refine blk_alloc ?_ _)); refine blk_put (cs := #[.bool t208, .bool x192001_1, .int .u64 x192002_1, .bool x192003_1, .bool x192004_1, .int .u64 x192005_1]) ?_ 1 _ rfl; (with_reducible repeat (first | refine blk_drewN ?_ _ | refine blk_drew ?_ | refine blk_alloc ?_ _)); refine blk_put (cs := #[.bool x192000_1, .bool x192001_1, .int .u64 x192002_1, .bool x192003_1, .bool x192004_1, .int .u64 x192005_1]) ?_ 0 _ rfl; (with_reducible repeat (first | refine blk_drewN ?_ _ | refine blk_drew ?_ | refine blk_alloc ?_ _)); refine blk_far ?_ NB191_190.out _; (with_reducible repeat (first | refine blk_drewN ?_ _ | refine blk_drew ?_ | refine blk_alloc ?_ _)); refine blk_far ?_ NB191_190.out _; (with_reducible repeat (first | refine blk_drewN ?_ _ | refine blk_drew ?_ | refine blk_alloc ?_ _)); refine blk_far ?_ NB191_190.out _; (with_reducible repeat (first | refine blk_drewN ?_ _ | refine blk_drew ?_ | refine blk_alloc ?_ _)); refine blk_far ?_ NB191_190.out _; (with_reducible repeat (first | refine blk_drewN ?_ _ | refine blk_drew ?_ | refine blk_alloc ?_ _)); refine blk_far ?_ NB191_190.out _; (with_reducible repeat (first | refine blk_drewN ?_ _ | refine blk_drew ?_ | refine blk_alloc ?_ _)); refine blk_far ?_ NB191_190.out _; (with_reducible repeat (first | refine blk_drewN ?_ _ | refine blk_drew ?_ | refine blk_alloc ?_ _)); exact BK191.out⟩
                  have n2_ : Aside0 (((((((((((((w41.setCell ⟨gb190, 0, none⟩ (.bool t195)).setCell ⟨gb190, 1, none⟩ (.bool t196)).setCell ⟨gb190, 2, none⟩ (.int .u64 t197)).setCell ⟨gb190, 3, none⟩ (.bool t198)).setCell ⟨gb190, 4, none⟩ (.bool t199)).setCell ⟨gb190, 5, none⟩ (.int .u64 t200)).setCell ⟨gb191, 0, none⟩ (.bool t208)).setCell ⟨gb191, 1, none⟩ (.bool t209)).setCell ⟨gb191, 2, none⟩ (.int .u64 t210)).setCell ⟨gb191, 3, none⟩ (.bool t211)).setCell ⟨gb191, 4, none⟩ (.bool t212)).setCell ⟨gb191, 5, none⟩ (.int .u64 t213)).heap[gb194]? = some (.cells #[.int .i64 ((rd_T37 l0 x17_1).f0), .int .u8 ((rd_T37 l0 x17_1).f1.f0), .bool ((rd_T37 l0 x17_1).f1.f1), .bool ((rd_T37 l0 x17_1).f1.f2), .bool ((rd_T37 l0 x17_1).f1.f3), .int .u64 ((rd_T37 l0 x17_1).f1.f4)] 37 (0, 0))) := ⟨by (with_reducible repeat (first | refine blk_drewN ?_ _ | refine blk_drew ?_ | refine blk_alloc ?_ _)); refine blk_far ?_ NB194_191.out _; (with_reducible repeat (first | refine blk_drewN ?_ _ | refine blk_drew ?_ | refine blk_alloc ?_ _)); refine blk_far ?_ NB194_191.out _; (with_reducible repeat (first | refine blk_drewN ?_ _ | refine blk_drew ?_ | refine blk_alloc ?_ _)); refine blk_far ?_ NB194_191.out _; (with_reducible repeat (first | refine blk_drewN ?_ _ | refine blk_drew ?_ | refine blk_alloc ?_ _)); refine blk_far ?_ NB194_191.out _; (with_reducible repeat (first | refine blk_drewN ?_ _ | refine blk_drew ?_ | refine blk_alloc ?_ _)); refine blk_far ?_ NB194_191.out _; (with_reducible repeat (first | refine blk_drewN ?_ _ | refine blk_drew ?_ | refine blk_alloc ?_ _)); refine blk_far ?_ NB194_191.out _; (with_reducible repeat (first | refine blk_drewN ?_ _ | refine blk_drew ?_ | refine blk_alloc ?_ _)); refine blk_far ?_ NB194_190.out _; (with_reducible repeat (first | refine blk_drewN ?_ _ | refine blk_drew ?_ | refine blk_alloc ?_ _)); refine blk_far ?_ NB194_190.out _; (with_reducible repeat (first | refine blk_drewN ?_ _ | refine blk_drew ?_ | refine blk_alloc ?_ _)); refine blk_far ?_ NB194_190.out _; (with_reducible repeat (first | refine blk_drewN ?_ _ | refine blk_drew ?_ | refine blk_alloc ?_ _)); refine blk_far ?_ NB194_190.out _; (with_reducible repeat (first | refine blk_drewN ?_ _ | refine blk_drew ?_ | refine blk_alloc ?_ _)); refine blk_far ?_ NB194_190.out _; (with_reducible repeat (first | refine blk_drewN ?_ _ | refine blk_drew ?_ | refine blk_alloc ?_ _)); refine blk_far ?_ NB194_190.out _; (with_reducible repeat (first | refine blk_drewN ?_ _ | refine blk_drew ?_ | refine blk_alloc ?_ _)); exact BK194.out⟩
                  have n3_ : Aside0 (((((((((((((w41.setCell ⟨gb190, 0, none⟩ (.bool t195)).setCell ⟨gb190, 1, none⟩ (.bool t196)).setCell ⟨gb190, 2, none⟩ (.int .u64 t197)).setCell ⟨gb190, 3, none⟩ (.bool t198)).setCell ⟨gb190, 4, none⟩ (.bool t199)).setCell ⟨gb190, 5, none⟩ (.int .u64 t200)).setCell ⟨gb191, 0, none⟩ (.bool t208)).setCell ⟨gb191, 1, none⟩ (.bool t209)).setCell ⟨gb191, 2, none⟩ (.int .u64 t210)).setCell ⟨gb191, 3, none⟩ (.bool t211)).setCell ⟨gb191, 4, none⟩ (.bool t212)).setCell ⟨gb191, 5, none⟩ (.int .u64 t213)).heap[gb202]? = some (.cells #[.bool t195, .bool t196, .int .u64 t197, .bool t198, .bool t199, .int .u64 t200] 29 (0, 0))) := ⟨by (with_reducible repeat (first | refine blk_drewN ?_ _ | refine blk_drew ?_ | refine blk_alloc ?_ _)); refine blk_far ?_ NB202_191.out _; (with_reducible repeat (first | refine blk_drewN ?_ _ | refine blk_drew ?_ | refine blk_alloc ?_ _)); refine blk_far ?_ NB202_191.out _; (with_reducible repeat (first | refine blk_drewN ?_ _ | refine blk_drew ?_ | refine blk_alloc ?_ _)); refine blk_far ?_ NB202_191.out _; (with_reducible repeat (first | refine blk_drewN ?_ _ | refine blk_drew ?_ | refine blk_alloc ?_ _)); refine blk_far ?_ NB202_191.out _; (with_reducible repeat (first | refine blk_drewN ?_ _ | refine blk_drew ?_ | refine blk_alloc ?_ _)); refine blk_far ?_ NB202_191.out _; (with_reducible repeat (first | refine blk_drewN ?_ _ | refine blk_drew ?_ | refine blk_alloc ?_ _)); refine blk_far ?_ NB202_191.out _; (with_reducible repeat (first | refine blk_drewN ?_ _ | refine blk_drew ?_ | refine blk_alloc ?_ _)); refine blk_far ?_ NB202_190.out _; (with_reducible repeat (first | refine blk_drewN ?_ _ | refine blk_drew ?_ | refine blk_alloc ?_ _)); refine blk_far ?_ NB202_190.out _; (with_reducible repeat (first | refine blk_drewN ?_ _ | refine blk_drew ?_ | refine blk_alloc ?_ _)); refine blk_far ?_ NB202_190.out _; (with_reducible repeat (first | refine blk_drewN ?_ _ | refine blk_drew ?_ | refine blk_alloc ?_ _)); refine blk_far ?_ NB202_190.out _; (with_reducible repeat (first | refine blk_drewN ?_ _ | refine blk_drew ?_ | refine blk_alloc ?_ _)); refine blk_far ?_ NB202_190.out _; (with_reducible repeat (first | refine blk_drewN ?_ _ | refine blk_drew ?_ | refine blk_alloc ?_ _)); refine blk_far ?_ NB202_190.out _; (with_reducible repeat (first | refine blk_drewN ?_ _ | refine blk_drew ?_ | refine blk_alloc ?_ _)); exact BK202.out⟩
                  have n4_ : Aside0 (((((((((((((w41.setCell ⟨gb190, 0, none⟩ (.bool t195)).setCell ⟨gb190, 1, none⟩ (.bool t196)).setCell ⟨gb190, 2, none⟩ (.int .u64 t197)).setCell ⟨gb190, 3, none⟩ (.bool t198)).setCell ⟨gb190, 4, none⟩ (.bool t199)).setCell ⟨gb190, 5, none⟩ (.int .u64 t200)).setCell ⟨gb191, 0, none⟩ (.bool t208)).setCell ⟨gb191, 1, none⟩ (.bool t209)).setCell ⟨gb191, 2, none⟩ (.int .u64 t210)).setCell ⟨gb191, 3, none⟩ (.bool t211)).setCell ⟨gb191, 4, none⟩ (.bool t212)).setCell ⟨gb191, 5, none⟩ (.int .u64 t213)).heap[gb215]? = some (.cells #[.bool t208, .bool t209, .int .u64 t210, .bool t211, .bool t212, .int .u64 t213] 32 (0, 0))) := ⟨by (with_reducible repeat (first | refine blk_drewN ?_ _ | refine blk_drew ?_ | refine blk_alloc ?_ _)); refine blk_far ?_ NB215_191.out _; (with_reducible repeat (first | refine blk_drewN ?_ _ | refine blk_drew ?_ | refine blk_alloc ?_ _)); refine blk_far ?_ NB215_191.out _; (with_reducible repeat (first | refine blk_drewN ?_ _ | refine blk_drew ?_ | refine blk_alloc ?_ _)); refine blk_far ?_ NB215_191.out _; (with_reducible repeat (first | refine blk_drewN ?_ _ | refine blk_drew ?_ | refine blk_alloc ?_ _)); refine blk_far ?_ NB215_191.out _; (with_reducible repeat (first | refine blk_drewN ?_ _ | refine blk_drew ?_ | refine blk_alloc ?_ _)); refine blk_far ?_ NB215_191.out _; (with_reducible repeat (first | refine blk_drewN ?_ _ | refine blk_drew ?_ | refine blk_alloc ?_ _)); refine blk_far ?_ NB215_191.out _; (with_reducible repeat (first | refine blk_drewN ?_ _ | refine blk_drew ?_ | refine blk_alloc ?_ _)); refine blk_far ?_ NB215_190.out _; (with_reducible repeat (first | refine blk_drewN ?_ _ | refine blk_drew ?_ | refine blk_alloc ?_ _)); refine blk_far ?_ NB215_190.out _; (with_reducible repeat (first | refine blk_drewN ?_ _ | refine blk_drew ?_ | refine blk_alloc ?_ _)); refine blk_far ?_ NB215_190.out _; (with_reducible repeat (first | refine blk_drewN ?_ _ | refine blk_drew ?_ | refine blk_alloc ?_ _)); refine blk_far ?_ NB215_190.out _; (with_reducible repeat (first | refine blk_drewN ?_ _ | refine blk_drew ?_ | refine blk_alloc ?_ _)); refine blk_far ?_ NB215_190.out _; (with_reducible repeat (first | refine blk_drewN ?_ _ | refine blk_drew ?_ | refine blk_alloc ?_ _)); refine blk_far ?_ NB215_190.out _; (with_reducible repeat (first | refine blk_drewN ?_ _ | refine blk_drew ?_ | refine blk_alloc ?_ _)); exact BK215.out⟩
                  have n5_ : Aside0 (Below w.heap.size w ((((((((((((w41.setCell ⟨gb190, 0, none⟩ (.bool t195)).setCell ⟨gb190, 1, none⟩ (.bool t196)).setCell ⟨gb190, 2, none⟩ (.int .u64 t197)).setCell ⟨gb190, 3, none⟩ (.bool t198)).setCell ⟨gb190, 4, none⟩ (.bool t199)).setCell ⟨gb190, 5, none⟩ (.int .u64 t200)).setCell ⟨gb191, 0, none⟩ (.bool t208)).setCell ⟨gb191, 1, none⟩ (.bool t209)).setCell ⟨gb191, 2, none⟩ (.int .u64 t210)).setCell ⟨gb191, 3, none⟩ (.bool t211)).setCell ⟨gb191, 4, none⟩ (.bool t212)).setCell ⟨gb191, 5, none⟩ (.int .u64 t213))) := ⟨by repeat (first | (with_reducible first | exact HB.out | apply below_alloc | apply pw_below_drewN | apply below_drew1 | refine below_set ?_ GE190.out | refine below_set ?_ GE191.out | refine below_set ?_ GE194.out | refine below_set ?_ GE202.out | refine below_set ?_ GE215.out) | exact HB.out)⟩
                  (try clear BK190)
                  (try clear BK191)
                  (try clear BK194)
                  (try clear BK202)
                  (try clear BK215)
                  (try clear HB)
                  generalize ((((((((((((w41.setCell ⟨gb190, 0, none⟩ (.bool t195)).setCell ⟨gb190, 1, none⟩ (.bool t196)).setCell ⟨gb190, 2, none⟩ (.int .u64 t197)).setCell ⟨gb190, 3, none⟩ (.bool t198)).setCell ⟨gb190, 4, none⟩ (.bool t199)).setCell ⟨gb190, 5, none⟩ (.int .u64 t200)).setCell ⟨gb191, 0, none⟩ (.bool t208)).setCell ⟨gb191, 1, none⟩ (.bool t209)).setCell ⟨gb191, 2, none⟩ (.int .u64 t210)).setCell ⟨gb191, 3, none⟩ (.bool t211)).setCell ⟨gb191, 4, none⟩ (.bool t212)).setCell ⟨gb191, 5, none⟩ (.int .u64 t213)) = w54 at n0_ n1_ n2_ n3_ n4_ n5_ ⊢
                  have BK190 := n0_
                  have BK191 := n1_
                  have BK194 := n2_
                  have BK202 := n3_
                  have BK215 := n4_
                  have HB := n5_
                  clear n0_ n1_ n2_ n3_ n4_ n5_
                  have n0_ := Aside0.mk (blk_drew BK190.out)
                  have n1_ := Aside0.mk (blk_drew BK191.out)
                  have n2_ := Aside0.mk (blk_drew BK194.out)
                  have n3_ := Aside0.mk (blk_drew BK202.out)
                  have n4_ := Aside0.mk (blk_drew BK215.out)
                  have n5_ := Aside0.mk (below_drew1 HB.out)
                  clear BK190
                  clear BK191
                  clear BK194
                  clear BK202
                  clear BK215
                  clear HB
                  have BK190 := n0_
                  have BK191 := n1_
                  have BK194 := n2_
                  have BK202 := n3_
                  have BK215 := n4_
                  have HB := n5_
                  clear n0_ n1_ n2_ n3_ n4_ n5_
                  refine start_ (n := 9) (S := fun w' => w'.cell? ⟨gb190, 0, none⟩ = some (.bool t195) ∧ w'.cell? ⟨gb190, 1, none⟩ = some (.bool t196) ∧ w'.cell? ⟨gb190, 2, none⟩ = some (.int .u64 t197) ∧ w'.cell? ⟨gb190, 3, none⟩ = some (.bool t198) ∧ w'.cell? ⟨gb190, 4, none⟩ = some (.bool t199) ∧ w'.cell? ⟨gb190, 5, none⟩ = some (.int .u64 t200) ∧ w'.cell? ⟨gb191, 0, none⟩ = some (.bool t208) ∧ w'.cell? ⟨gb191, 1, none⟩ = some (.bool t209) ∧ w'.cell? ⟨gb191, 2, none⟩ = some (.int .u64 t210) ∧ w'.cell? ⟨gb191, 3, none⟩ = some (.bool t211) ∧ w'.cell? ⟨gb191, 4, none⟩ = some (.bool t212) ∧ w'.cell? ⟨gb191, 5, none⟩ = some (.int .u64 t213)) (ds := []) #[false, false, false, false, false, false, false, false, false] (by kernel_rfl) rfl rfl ⟨(blk_cell BK190.out 0).trans rfl, (blk_cell BK190.out 1).trans rfl, (blk_cell BK190.out 2).trans rfl, (blk_cell BK190.out 3).trans rfl, (blk_cell BK190.out 4).trans rfl, (blk_cell BK190.out 5).trans rfl, (blk_cell BK191.out 0).trans rfl, (blk_cell BK191.out 1).trans rfl, (blk_cell BK191.out 2).trans rfl, (blk_cell BK191.out 3).trans rfl, (blk_cell BK191.out 4).trans rfl, (blk_cell BK191.out 5).trans rfl⟩ (fun hHeld => ?_); refine with_tabW carousellaw14_FlushHears.tab11 carousellaw14_FlushHears.bits11 (fun HT_ HW_ => ?_)
                  generalize w54.drew = w55 at BK190 BK191 BK194 BK202 BK215 HB hHeld ⊢
                  refine pure_ (i := 0) (N := some 42) (v := ?_) (a' := ?_) #[true, false, false, false, false, false, false, false, false] rfl rfl (any_of HT_.out (by kernel_rfl)) (fun _ _ _ h => h) (Or.inl ⟨by rfl, ?_⟩) ?_ ?_
                  rotate_left
                  · intro w'
                    go_simp
                    with_reducible rfl
                  rotate_left
                  · simp only [Act.put, List.setIfInBounds_toArray, List.set_cons_zero, List.set_cons_succ, i64_w, i32_w]
                    rfl
                  refine pure_ (i := 1) (N := some 43) (v := ?_) (a' := ?_) #[true, true, false, false, false, false, false, false, false] rfl rfl (any_of HT_.out (by kernel_rfl)) (fun _ _ _ h => h) (Or.inl ⟨by rfl, ?_⟩) ?_ ?_
                  rotate_left
                  · intro w'
                    go_simp
                    with_reducible rfl
                  rotate_left
                  · simp only [Act.put, List.setIfInBounds_toArray, List.set_cons_zero, List.set_cons_succ, i64_w, i32_w]
                    rfl
                  refine pure_ (i := 2) (N := some 44) (v := ?_) (a' := ?_) #[true, true, true, false, false, false, false, false, false] rfl rfl (any_of HT_.out (by kernel_rfl)) (fun _ _ _ h => h) (Or.inl ⟨by rfl, ?_⟩) ?_ ?_
                  rotate_left
                  · intro w'
                    go_simp
                    with_reducible rfl
                  rotate_left
                  · simp only [Act.put, List.setIfInBounds_toArray, List.set_cons_zero, List.set_cons_succ, i64_w, i32_w]
                    rfl
                  refine pure_ (i := 3) (N := some 45) (v := ?_) (a' := ?_) #[true, true, true, true, false, false, false, false, false] rfl rfl (any_of HT_.out (by kernel_rfl)) (fun _ _ _ h => h) (Or.inl ⟨by rfl, ?_⟩) ?_ ?_
                  rotate_left
                  · intro w'
                    go_simp
                    with_reducible rfl
                  rotate_left
                  · simp only [Act.put, List.setIfInBounds_toArray, List.set_cons_zero, List.set_cons_succ, i64_w, i32_w]
                    rfl
                  refine take_ (i := 4) (N := some 46) (v := ?_) (a' := ?_) #[true, true, true, true, true, false, false, false, false] rfl rfl (take_ofW HT_.out HW_.out (by kernel_rfl)) (fun _ _ _ h => h) (Or.inl ⟨by rfl, ?_⟩) hHeld ?_ ?_
                  rotate_left
                  · rintro w' ⟨s0, s1, s2, s3, s4, s5, s6, s7, s8, s9, s10, s11⟩
                    go_simp
                    with_reducible rfl
                  rotate_left
                  · simp only [Act.put, List.setIfInBounds_toArray, List.set_cons_zero, List.set_cons_succ, i64_w, i32_w]
                    rfl
                  refine take_ (i := 6) (N := some 48) (v := ?_) (a' := ?_) #[true, true, true, true, true, false, true, false, false] rfl rfl (take_ofW HT_.out HW_.out (by kernel_rfl)) (fun _ _ _ h => h) (Or.inl ⟨by rfl, ?_⟩) hHeld ?_ ?_
                  rotate_left
                  · rintro w' ⟨s0, s1, s2, s3, s4, s5, s6, s7, s8, s9, s10, s11⟩
                    go_simp
                    with_reducible rfl
                  rotate_left
                  · simp only [Act.put, List.setIfInBounds_toArray, List.set_cons_zero, List.set_cons_succ, i64_w, i32_w]
                    rfl
                  refine one_ (i := 5) (N := some 47) #[true, true, true, true, true, true, true, false, false] rfl rfl (one_of HT_.out (by kernel_rfl)) (by decide) (fun K hK => ?_)
                  refine goes_ Try.func9 (by kernel_rfl) rfl #[.agg #[.bool t195, .bool t196, .int .u64 t197, .bool t198, .bool t199, .int .u64 t200]] (by rfl) rfl rfl (by (try simp only [List.map_toArray, List.map_cons, List.map_nil]); first | done | rfl | (simp only [List.length_drop, List.length_take]; rfl)) ?_
                  with_reducible refine (carousellaw14_Of.calls t195 t196 t197 t198 t199 t200 t216 t217 t218 t219 t220 t221 _ A14.out).mono ?_
                  rintro e w56 ⟨rfl, hb⟩
                  refine ⟨_, rfl, ?_⟩
                  have n0_ := Aside0.mk (blk_below (g := gb190) (o := .cells #[.bool t195, .bool t196, .int .u64 t197, .bool t198, .bool t199, .int .u64 t200] 29 (0, 0)) (by (with_reducible repeat (first | refine blk_drewN ?_ _ | refine blk_drew ?_ | refine blk_alloc ?_ _)); exact BK190.out) hb)
                  have n1_ := Aside0.mk (blk_below (g := gb191) (o := .cells #[.bool t208, .bool t209, .int .u64 t210, .bool t211, .bool t212, .int .u64 t213] 32 (0, 0)) (by (with_reducible repeat (first | refine blk_drewN ?_ _ | refine blk_drew ?_ | refine blk_alloc ?_ _)); exact BK191.out) hb)
                  have n2_ := Aside0.mk (blk_below (g := gb194) (o := .cells #[.int .i64 ((rd_T37 l0 x17_1).f0), .int .u8 ((rd_T37 l0 x17_1).f1.f0), .bool ((rd_T37 l0 x17_1).f1.f1), .bool ((rd_T37 l0 x17_1).f1.f2), .bool ((rd_T37 l0 x17_1).f1.f3), .int .u64 ((rd_T37 l0 x17_1).f1.f4)] 37 (0, 0)) (by (with_reducible repeat (first | refine blk_drewN ?_ _ | refine blk_drew ?_ | refine blk_alloc ?_ _)); exact BK194.out) hb)
                  have n3_ := Aside0.mk (blk_below (g := gb202) (o := .cells #[.bool t195, .bool t196, .int .u64 t197, .bool t198, .bool t199, .int .u64 t200] 29 (0, 0)) (by (with_reducible repeat (first | refine blk_drewN ?_ _ | refine blk_drew ?_ | refine blk_alloc ?_ _)); exact BK202.out) hb)
                  have n4_ := Aside0.mk (blk_below (g := gb215) (o := .cells #[.bool t208, .bool t209, .int .u64 t210, .bool t211, .bool t212, .int .u64 t213] 32 (0, 0)) (by (with_reducible repeat (first | refine blk_drewN ?_ _ | refine blk_drew ?_ | refine blk_alloc ?_ _)); exact BK215.out) hb)
                  have n5_ := Aside0.mk (below_step (by repeat (first | (with_reducible first | exact HB.out | apply below_alloc | apply pw_below_drewN | apply below_drew1 | refine below_set ?_ GE190.out | refine below_set ?_ GE191.out | refine below_set ?_ GE194.out | refine below_set ?_ GE202.out | refine below_set ?_ GE215.out) | exact HB.out)) hb)
                  clear BK190
                  clear BK191
                  clear BK194
                  clear BK202
                  clear BK215
                  clear HB
                  have BK190 := n0_
                  have BK191 := n1_
                  have BK194 := n2_
                  have BK202 := n3_
                  have BK215 := n4_
                  have HB := n5_
                  clear n0_ n1_ n2_ n3_ n4_ n5_
                  (try clear hb)
                  (try clear hb2)
                  (try clear hk)
                  (try clear hi)
                  refine hK.out _ _ ⟨(blk_cell BK190.out 0).trans rfl, (blk_cell BK190.out 1).trans rfl, (blk_cell BK190.out 2).trans rfl, (blk_cell BK190.out 3).trans rfl, (blk_cell BK190.out 4).trans rfl, (blk_cell BK190.out 5).trans rfl, (blk_cell BK191.out 0).trans rfl, (blk_cell BK191.out 1).trans rfl, (blk_cell BK191.out 2).trans rfl, (blk_cell BK191.out 3).trans rfl, (blk_cell BK191.out 4).trans rfl, (blk_cell BK191.out 5).trans rfl⟩ (fun hHeld => ?_)
                  clear hK K
                  refine norm_ (a' := ?_) ?_ ?_
                  rotate_left
                  · show Act.put _ (some 47) _ = _
                    simp only [Act.put, List.setIfInBounds_toArray, List.set_cons_zero, List.set_cons_succ, i64_w, i32_w]
                    rfl
                  refine pure_ (i := 7) (N := some 49) (v := ?_) (a' := ?_) #[true, true, true, true, true, true, true, true, false] rfl rfl (any_of HT_.out (by kernel_rfl)) (fun _ _ _ h => h) (Or.inl ⟨by rfl, ?_⟩) ?_ ?_
                  rotate_left
                  · intro w'
                    go_simp
                    with_reducible rfl
                  rotate_left
                  · simp only [Act.put, List.setIfInBounds_toArray, List.set_cons_zero, List.set_cons_succ, i64_w, i32_w]
                    rfl
                  refine pure_ (i := 8) (N := some 50) (v := ?_) (a' := ?_) #[true, true, true, true, true, true, true, true, true] rfl rfl (any_of HT_.out (by kernel_rfl)) (fun _ _ _ h => h) (Or.inl ⟨by rfl, ?_⟩) ?_ ?_
                  rotate_left
                  · intro w'
                    go_simp
                    with_reducible rfl
                  rotate_left
                  · simp only [Act.put, List.setIfInBounds_toArray, List.set_cons_zero, List.set_cons_succ, i64_w, i32_w]
                    rfl
                  refine done_ (done_of HT_.out (by kernel_rfl)) ?_
                  try go_wp2
                  go_roundg k1
                  case measure => have := HK1.out; omega
                  case rel => exact ⟨(wrap64 (x17_1 + 1)), (t195), (t196), (t197), (t198), (t199), (t200), (t208), (t209), (t210), (t211), (t212), (t213), (by first | rfl | (simp; done) | (simp [*]; done)), H', ⟨by have := HK1.out; omega⟩, ⟨by (with_reducible repeat (first | refine blk_drewN ?_ _ | refine blk_drew ?_ | refine blk_alloc ?_ _)); exact BK190.out⟩, ⟨by (with_reducible repeat (first | refine blk_drewN ?_ _ | refine blk_drew ?_ | refine blk_alloc ?_ _)); exact BK191.out⟩, ⟨by repeat (first | (with_reducible first | exact HB.out | apply below_alloc | apply pw_below_drewN | apply below_drew1 | refine below_set ?_ GE190.out | refine below_set ?_ GE191.out | refine below_set ?_ GE194.out | refine below_set ?_ GE202.out | refine below_set ?_ GE215.out) | exact HB.out)⟩⟩
            · rw [if_neg c9] at H
              exact absurd H (by simp)
          · rw [if_neg c8] at H
            exact absurd H (by simp)
        · rw [if_neg c7] at H
          have c7b0 : decide (x17_1 < (l0.length : Int)) = false := decide_eq_false c7
          clear c7
          replace H := Option.bind_eq_some_iff.mp H
          obtain ⟨t192, A570, H⟩ := H
          replace H : (some t192) = some r := H
          have A57 := Aside0.mk A570
          clear A570
          obtain rfl := Option.some.inj H
          go_wp2_with (first | ((with_reducible refine gate_callee (f := 5) rfl ?_); refine goesL_ (some 52) rfl rfl Try.func5 (by kernel_rfl) rfl #[] rfl (by (try simp only [List.map_toArray, List.map_cons, List.map_nil]); first | done | rfl | (simp only [List.length_drop, List.length_take]; rfl)) ?_; (with_reducible refine (carousellaw14_Awake.calls k1  t192 _ A57.out).mono ?_); rintro e w58 ⟨rfl, hb⟩; refine ⟨_, rfl, ?_⟩; have n0_ := Aside0.mk (blk_below (g := gb190) (o := .cells #[.bool x191000_1, .bool x191001_1, .int .u64 x191002_1, .bool x191003_1, .bool x191004_1, .int .u64 x191005_1] 29 (0, 0)) (by (with_reducible repeat (first | refine blk_drewN ?_ _ | refine blk_drew ?_ | refine blk_alloc ?_ _)); exact BK190.out) hb); have n1_ := Aside0.mk (blk_below (g := gb191) (o := .cells #[.bool x192000_1, .bool x192001_1, .int .u64 x192002_1, .bool x192003_1, .bool x192004_1, .int .u64 x192005_1] 32 (0, 0)) (by (with_reducible repeat (first | refine blk_drewN ?_ _ | refine blk_drew ?_ | refine blk_alloc ?_ _)); exact BK191.out) hb); have n2_ := Aside0.mk (below_step (by repeat (first | (with_reducible first | exact HB.out | apply below_alloc | apply pw_below_drewN | apply below_drew1 | refine below_set ?_ GE190.out | refine below_set ?_ GE191.out) | exact HB.out)) hb); clear BK190; clear BK191; clear HB; have BK190 := n0_; have BK191 := n1_; have HB := n2_; clear n0_ n1_ n2_; (try clear hb); (try clear hb2); (try clear hk); (try clear hi)))
          go_ret
          exact ⟨by first | rfl | (simp [errW_none, errW_some] <;> rfl) | (simp [*, errW_none, errW_some] <;> rfl), by repeat (first | (with_reducible first | exact HB.out | apply below_alloc | apply pw_below_drewN | apply below_drew1 | refine below_set ?_ GE190.out | refine below_set ?_ GE191.out) | exact HB.out)⟩

/-- THE ONE PURE STATEMENT of carousellaw14_FlushHears: yours. -/
def carousellaw14_FlushHears.Pure : Prop := ∀ (l0 : List (S37)), l0.length ≤ maxLen → l0.length * 24 ≤ 140737488351232 → (∀ x ∈ l0, (Lit.int .i64 (x).f0).wf = true ∧ (Lit.int .u8 (x).f1.f0).wf = true ∧ (Lit.int .u64 (x).f1.f4).wf = true) → ∃ k, carousellaw14_FlushHears.f k l0 = some true
theorem carousellaw14_FlushHears.walk (P : carousellaw14_FlushHears.Pure) (A0 : Option Addr) (c0 : Nat) (l0 : List (S37)) (w : World) (hr0 : Kd.C k37 w A0 l0.length l0) (hc0 : l0.length ≤ c0) (w0_0 : l0.length ≤ maxLen) (w0_1 : l0.length * 24 ≤ 140737488351232) (w0_2 : (∀ x ∈ l0, (Lit.int .i64 (x).f0).wf = true ∧ (Lit.int .u8 (x).f1.f0).wf = true ∧ (Lit.int .u64 (x).f1.f4).wf = true)) :
    Calls Try.prog 3 #[.slice A0 l0.length c0] w fun e w' => e = .returned (.bool true) ∧ Below w.heap.size w w' := by
  obtain ⟨k, h⟩ := P l0 w0_0 w0_1 w0_2
  refine (carousellaw14_FlushHears.calls k A0 c0 l0 true w hr0 hc0 h rfl).mono ?_
  rintro e w' ⟨rfl, hd⟩
  exact ⟨rfl, hd⟩

end Go.Proofs.Ytbciaapkahfcaaa.PFlushHears
