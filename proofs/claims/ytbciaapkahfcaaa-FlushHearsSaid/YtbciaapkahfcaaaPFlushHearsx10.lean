-- Written by a program of this work, after the translation.
import Derived.Test.YtbciaapkahfcaaaPFlushHearsx0
import Derived.Test.YtbciaapkahfcaaaPFlushHearsx9
namespace Go.Proofs.Ytbciaapkahfcaaa.PFlushHears
open Go.RowKit Go.Proofs.YtbciaapkahfcaaaW.PrintWords Go.Proofs.YtbciaapkahfcaaaW.PrintLast Go.Proofs.YtbciaapkahfcaaaW.PrintMore
attribute [local go_sem] max2_int min2_int max_two min_two max_three min_three max_four min_four   -- for this text's walks alone
set_option linter.unusedVariables false
set_option linter.unusedSimpArgs false

/-! ### carouselref14_Hear: function 7 (given: its walk is in another text) -/

/-- One port's pair, and whether tables are emptied. -/
def carouselref14_Hear.one (s e : Bool) (n : Int) (s' e' : Bool) (n' : Int) (rq : Int) (bl kp ea : Bool) (nd : Int) : (Bool × Bool × Int) × Bool :=
  if (rq == 0 && !bl) = true then ((false, false, 0), false) else if (s && (e == ea && n == nd)) = true then ((s, e, n), false) else ((true, ea, nd), if kp = true then false else !(s' && (e' == ea && n' == nd)))
def carouselref14_Hear.f (a0_0 a0_1 : Bool) (a0_2 : Int) (a0_3 a0_4 : Bool) (a0_5 a1 a2_0 : Int) (a2_1 a2_2 a2_3 : Bool) (a2_4 : Int) : Option (Bool × Bool × Int × Bool × Bool × Int × Bool) :=
  if a1 = 0 then (let r := carouselref14_Hear.one a0_0 a0_1 a0_2 a0_3 a0_4 a0_5 a2_0 a2_1 a2_2 a2_3 a2_4; some (r.1.1, r.1.2.1, r.1.2.2, a0_3, a0_4, a0_5, r.2))
  else if a1 = 1 then (let r := carouselref14_Hear.one a0_3 a0_4 a0_5 a0_0 a0_1 a0_2 a2_0 a2_1 a2_2 a2_3 a2_4; some (a0_0, a0_1, a0_2, r.1.1, r.1.2.1, r.1.2.2, r.2))
  else some (a0_0, a0_1, a0_2, a0_3, a0_4, a0_5, false)
theorem carouselref14_Hear.wp_W {P : Program} {C : Code} {Q : Exit → Act → World → Prop} {a : Act} {W : World} (h : ∀ W', W' = W → Code.wp P C Q a W') : Code.wp P C Q a W := h W rfl
theorem carouselref14_Hear.post_W {P : Program} {fn : Func} {R : Ending → World → Prop} {x : Exit} {a : Act} {W : World} (h : ∀ W', W' = W → bodyPost P fn R x a W') : bodyPost P fn R x a W := h W rfl
theorem carouselref14_Hear.set_b {w W : World} {p : Addr} (h : Below w.heap.size w W) (hp : w.heap.size ≤ p.block) (v : Value) : Below w.heap.size w (W.setCell p v) := h.setCell hp v
theorem carouselref14_Hear.call_b {w W w1 : World} (h : Below w.heap.size w W) (hb : Below W.heap.size W w1) : Below w.heap.size w w1 := h.trans (hb.mono h.size)
theorem carouselref14_Hear.same_at (s e : Bool) (n rq : Int) (bl kp ea : Bool) (nd : Int) (w : World) (b : Bool) (hb : (s && (e == ea && n == nd)) = b) : Calls Try.prog 11 #[.agg #[.bool s, .bool e, .int .u64 n], .agg #[.int .u8 rq, .bool bl, .bool kp, .bool ea, .int .u64 nd]] w fun e w' => e = .returned (.bool b) ∧ Below w.heap.size w w' := by
  refine (carouselref14_same.calls s e n rq bl kp ea nd b w ?_).mono ?_
  · unfold carouselref14_same.f
    subst hb
    cases s
    · simp
    · by_cases h : (e == ea) = true
      · simp [h]
      · simp [h]
  · rintro e w' ⟨rfl, h⟩
    exact ⟨rfl, h⟩
set_option maxHeartbeats 8000000 in
set_option maxRecDepth 100000 in
theorem carouselref14_Hear.far (s0 e0 : Bool) (n0 : Int) (s1 e1 : Bool) (n1 : Int) (port rq : Int) (bl kp ea : Bool) (nd : Int) (w : World) (h0 : ¬ port = 0) (h1 : ¬ port = 1) :
    Calls Try.prog 7 #[.agg #[.bool s0, .bool e0, .int .u64 n0, .bool s1, .bool e1, .int .u64 n1], .int .i64 port, .agg #[.int .u8 rq, .bool bl, .bool kp, .bool ea, .int .u64 nd]] w fun e w' =>
      e = .returned (.tuple #[.agg #[.bool s0, .bool e0, .int .u64 n0, .bool s1, .bool e1, .int .u64 n1], .bool (false)]) ∧ Below w.heap.size w w' := by
  have huA := Try.underlying32
  by_cases hl : port < 0
  · have q0 : decide (port < 0) = true := decide_eq_true hl
    go_enter Try.func7, Try.ntmps7
    go_wp2
    all_goals exact bodyPost_ret (v := .tuple #[.agg #[.bool s0, .bool e0, .int .u64 n0, .bool s1, .bool e1, .int .u64 n1], .bool (false)]) (by simp [results, Try.results7, go_sem]) rfl ⟨rfl, by repeat (with_reducible first | exact Below.refl _ _ | apply below_alloc | apply below_drew1 | apply pw_below_drewN | refine carouselref14_Hear.set_b ?_ (by simp <;> omega) _)⟩
  · have q0 : decide (port < 0) = false := decide_eq_false hl
    have hg : 1 < port := by omega
    have q1 : decide (port > 1) = true := decide_eq_true hg
    have q2 : decide (1 < port) = true := decide_eq_true hg
    clear h0 h1
    go_enter Try.func7, Try.ntmps7
    go_wp2
    all_goals exact bodyPost_ret (v := .tuple #[.agg #[.bool s0, .bool e0, .int .u64 n0, .bool s1, .bool e1, .int .u64 n1], .bool (false)]) (by simp [results, Try.results7, go_sem]) rfl ⟨rfl, by repeat (with_reducible first | exact Below.refl _ _ | apply below_alloc | apply below_drew1 | apply pw_below_drewN | refine carouselref14_Hear.set_b ?_ (by simp <;> omega) _)⟩
set_option maxHeartbeats 8000000 in
set_option maxRecDepth 100000 in
theorem carouselref14_Hear.w0 (s0 e0 : Bool) (n0 : Int) (s1 e1 : Bool) (n1 : Int) (kp ea : Bool) (nd : Int) (w : World) :
    Calls Try.prog 7 #[.agg #[.bool s0, .bool e0, .int .u64 n0, .bool s1, .bool e1, .int .u64 n1], .int .i64 0, .agg #[.int .u8 0, .bool false, .bool kp, .bool ea, .int .u64 nd]] w fun e w' =>
      e = .returned (.tuple #[.agg #[.bool false, .bool false, .int .u64 0, .bool s1, .bool e1, .int .u64 n1], .bool (false)]) ∧ Below w.heap.size w w' := by
  have huA := Try.underlying32
  go_enter Try.func7, Try.ntmps7
  go_wp2
  exact bodyPost_ret (v := .tuple #[.agg #[.bool false, .bool false, .int .u64 0, .bool s1, .bool e1, .int .u64 n1], .bool (false)]) (by simp [results, Try.results7, go_sem]) rfl ⟨rfl, by repeat (with_reducible first | exact Below.refl _ _ | apply below_alloc | apply below_drew1 | apply pw_below_drewN | refine carouselref14_Hear.set_b ?_ (by simp <;> omega) _)⟩
set_option maxHeartbeats 8000000 in
set_option maxRecDepth 100000 in
theorem carouselref14_Hear.s0a (s0 e0 : Bool) (n0 : Int) (s1 e1 : Bool) (n1 : Int) (rq : Int) (bl kp ea : Bool) (nd : Int) (w : World) (hW : (rq == 0) = false) (hE : (s0 && (e0 == ea && n0 == nd)) = true) :
    Calls Try.prog 7 #[.agg #[.bool s0, .bool e0, .int .u64 n0, .bool s1, .bool e1, .int .u64 n1], .int .i64 0, .agg #[.int .u8 rq, .bool bl, .bool kp, .bool ea, .int .u64 nd]] w fun e w' =>
      e = .returned (.tuple #[.agg #[.bool s0, .bool e0, .int .u64 n0, .bool s1, .bool e1, .int .u64 n1], .bool (false)]) ∧ Below w.heap.size w w' := by
  have huA := Try.underlying32
  have HE := Lib.hid hE
  clear hE
  have hn0 := blk_new w (.cells #[.bool s0, .bool e0, .int .u64 n0, .bool s1, .bool e1, .int .u64 n1] 32)
  have hn1 := blk_new (w.alloc (.cells #[.bool s0, .bool e0, .int .u64 n0, .bool s1, .bool e1, .int .u64 n1] 32)) (.cells #[.int .u8 rq, .bool bl, .bool kp, .bool ea, .int .u64 nd] 43)
  have hn2 := blk_new ((w.alloc (.cells #[.bool s0, .bool e0, .int .u64 n0, .bool s1, .bool e1, .int .u64 n1] 32)).alloc (.cells #[.int .u8 rq, .bool bl, .bool kp, .bool ea, .int .u64 nd] 43)) (.cells #[.bool false, .bool false, .int .u64 0, .bool false, .bool false, .int .u64 0] 32)
  simp only [World.size_alloc] at hn1 hn2
  have Hn0 := Lib.hid hn0
  have Hn1 := Lib.hid hn1
  have Hn2 := Lib.hid hn2
  clear hn0 hn1 hn2
  go_enter Try.func7, Try.ntmps7
  go_wp2
  go_region_with (go_at_call 11; refine (carouselref14_Hear.same_at _ _ _ _ _ _ _ _ _ _ HE.out).mono ?_; rintro e' w1 ⟨rfl, hb⟩; have hB1 := carouselref14_Hear.call_b (w := w) (by repeat (with_reducible first | exact Below.refl _ _ | apply below_alloc | apply below_drew1 | apply pw_below_drewN | refine carouselref14_Hear.set_b ?_ (by simp <;> omega) _)) hb; have hP1 := blk_below (g := w.heap.size) (o := .cells #[.bool s0, .bool e0, .int .u64 n0, .bool s1, .bool e1, .int .u64 n1] 32 (0, 0)) (by have hn_ := Hn0.out; (with_reducible repeat (first | exact hn_ | refine blk_drewN ?_ _ | refine blk_drew ?_ | refine blk_alloc ?_ _))) hb; have hM1 := blk_below (g := w.heap.size + 1) (o := .cells #[.int .u8 rq, .bool bl, .bool kp, .bool ea, .int .u64 nd] 43 (0, 0)) (by have hn_ := Hn1.out; (with_reducible repeat (first | exact hn_ | refine blk_drewN ?_ _ | refine blk_drew ?_ | refine blk_alloc ?_ _))) hb; have hR1 := blk_below (g := w.heap.size + 1 + 1) (o := .cells #[.bool false, .bool false, .int .u64 0, .bool false, .bool false, .int .u64 0] 32 (0, 0)) (by have hn_ := Hn2.out; (with_reducible repeat (first | exact hn_ | refine blk_drewN ?_ _ | refine blk_drew ?_ | refine blk_alloc ?_ _))) hb; clear hb)
  all_goals
    have p0 : w1.cell? ⟨w.heap.size, 0, none⟩ = some (.bool s0) := (blk_cell hP1 0).trans rfl
    have p1 : w1.cell? ⟨w.heap.size, 1, none⟩ = some (.bool e0) := (blk_cell hP1 1).trans rfl
    have p2 : w1.cell? ⟨w.heap.size, 2, none⟩ = some (.int .u64 n0) := (blk_cell hP1 2).trans rfl
    have p3 : w1.cell? ⟨w.heap.size, 3, none⟩ = some (.bool s1) := (blk_cell hP1 3).trans rfl
    have p4 : w1.cell? ⟨w.heap.size, 4, none⟩ = some (.bool e1) := (blk_cell hP1 4).trans rfl
    have p5 : w1.cell? ⟨w.heap.size, 5, none⟩ = some (.int .u64 n1) := (blk_cell hP1 5).trans rfl
    have r0 : w1.cell? ⟨w.heap.size + 1 + 1, 0, none⟩ = some (.bool false) := (blk_cell hR1 0).trans rfl
    have r1 : w1.cell? ⟨w.heap.size + 1 + 1, 1, none⟩ = some (.bool false) := (blk_cell hR1 1).trans rfl
    have r2 : w1.cell? ⟨w.heap.size + 1 + 1, 2, none⟩ = some (.int .u64 0) := (blk_cell hR1 2).trans rfl
    have r3 : w1.cell? ⟨w.heap.size + 1 + 1, 3, none⟩ = some (.bool false) := (blk_cell hR1 3).trans rfl
    have r4 : w1.cell? ⟨w.heap.size + 1 + 1, 4, none⟩ = some (.bool false) := (blk_cell hR1 4).trans rfl
    have r5 : w1.cell? ⟨w.heap.size + 1 + 1, 5, none⟩ = some (.int .u64 0) := (blk_cell hR1 5).trans rfl
    have f0 := blk_frozen hR1 0
    have f1 := blk_frozen hR1 1
    have f2 := blk_frozen hR1 2
    have f3 := blk_frozen hR1 3
    have f4 := blk_frozen hR1 4
    have f5 := blk_frozen hR1 5
    go_wp2
    refine carouselref14_Hear.post_W (fun W5 hW5 => ?_)
    have hB5 : Below w.heap.size w W5 := by
      rw [hW5]
      repeat (with_reducible first | exact hB1 | apply below_alloc | apply below_drew1 | apply pw_below_drewN | refine carouselref14_Hear.set_b ?_ (by simp <;> omega) _)
    have hR5 : W5.heap[w.heap.size + 1 + 1]? = some (.cells #[.bool s0, .bool e0, .int .u64 n0, .bool s1, .bool e1, .int .u64 n1] 32 (0, 0)) := by
      rw [hW5]
      have hn_ := hR1
      (with_reducible repeat (first | exact hn_ | refine blk_drewN ?_ _ | refine blk_drew ?_ | refine blk_alloc ?_ _))
      with_reducible refine blk_put (cs := #[.bool s0, .bool e0, .int .u64 n0, .bool s1, .bool e1, .int .u64 0]) ?_ 5 _ rfl
      (with_reducible repeat (first | exact hn_ | refine blk_drewN ?_ _ | refine blk_drew ?_ | refine blk_alloc ?_ _))
      with_reducible refine blk_put (cs := #[.bool s0, .bool e0, .int .u64 n0, .bool s1, .bool false, .int .u64 0]) ?_ 4 _ rfl
      (with_reducible repeat (first | exact hn_ | refine blk_drewN ?_ _ | refine blk_drew ?_ | refine blk_alloc ?_ _))
      with_reducible refine blk_put (cs := #[.bool s0, .bool e0, .int .u64 n0, .bool false, .bool false, .int .u64 0]) ?_ 3 _ rfl
      (with_reducible repeat (first | exact hn_ | refine blk_drewN ?_ _ | refine blk_drew ?_ | refine blk_alloc ?_ _))
      with_reducible refine blk_put (cs := #[.bool s0, .bool e0, .int .u64 0, .bool false, .bool false, .int .u64 0]) ?_ 2 _ rfl
      (with_reducible repeat (first | exact hn_ | refine blk_drewN ?_ _ | refine blk_drew ?_ | refine blk_alloc ?_ _))
      with_reducible refine blk_put (cs := #[.bool s0, .bool false, .int .u64 0, .bool false, .bool false, .int .u64 0]) ?_ 1 _ rfl
      (with_reducible repeat (first | exact hn_ | refine blk_drewN ?_ _ | refine blk_drew ?_ | refine blk_alloc ?_ _))
      with_reducible refine blk_put (cs := #[.bool false, .bool false, .int .u64 0, .bool false, .bool false, .int .u64 0]) ?_ 0 _ rfl
      (with_reducible repeat (first | exact hn_ | refine blk_drewN ?_ _ | refine blk_drew ?_ | refine blk_alloc ?_ _))
    have z0 : W5.cell? ⟨w.heap.size + 1 + 1, 0, none⟩ = some (.bool s0) := (blk_cell hR5 0).trans rfl
    have z1 : W5.cell? ⟨w.heap.size + 1 + 1, 1, none⟩ = some (.bool e0) := (blk_cell hR5 1).trans rfl
    have z2 : W5.cell? ⟨w.heap.size + 1 + 1, 2, none⟩ = some (.int .u64 n0) := (blk_cell hR5 2).trans rfl
    have z3 : W5.cell? ⟨w.heap.size + 1 + 1, 3, none⟩ = some (.bool s1) := (blk_cell hR5 3).trans rfl
    have z4 : W5.cell? ⟨w.heap.size + 1 + 1, 4, none⟩ = some (.bool e1) := (blk_cell hR5 4).trans rfl
    have z5 : W5.cell? ⟨w.heap.size + 1 + 1, 5, none⟩ = some (.int .u64 n1) := (blk_cell hR5 5).trans rfl
    exact bodyPost_ret (v := .tuple #[.agg #[.bool s0, .bool e0, .int .u64 n0, .bool s1, .bool e1, .int .u64 n1], .bool (false)]) (by simp [results, Try.results7, go_sem, z0, z1, z2, z3, z4, z5]) rfl ⟨rfl, hB5⟩
set_option maxHeartbeats 8000000 in
set_option maxRecDepth 100000 in
theorem carouselref14_Hear.d0at (s0 e0 : Bool) (n0 : Int) (s1 e1 : Bool) (n1 : Int) (rq : Int) (bl ea : Bool) (nd : Int) (w : World) (hW : (rq == 0) = false) (hE : (s0 && (e0 == ea && n0 == nd)) = false) :
    Calls Try.prog 7 #[.agg #[.bool s0, .bool e0, .int .u64 n0, .bool s1, .bool e1, .int .u64 n1], .int .i64 0, .agg #[.int .u8 rq, .bool bl, .bool true, .bool ea, .int .u64 nd]] w fun e w' =>
      e = .returned (.tuple #[.agg #[.bool true, .bool ea, .int .u64 nd, .bool s1, .bool e1, .int .u64 n1], .bool (false)]) ∧ Below w.heap.size w w' := by
  have huA := Try.underlying32
  have HE := Lib.hid hE
  clear hE
  have hn0 := blk_new w (.cells #[.bool s0, .bool e0, .int .u64 n0, .bool s1, .bool e1, .int .u64 n1] 32)
  have hn1 := blk_new (w.alloc (.cells #[.bool s0, .bool e0, .int .u64 n0, .bool s1, .bool e1, .int .u64 n1] 32)) (.cells #[.int .u8 rq, .bool bl, .bool true, .bool ea, .int .u64 nd] 43)
  have hn2 := blk_new ((w.alloc (.cells #[.bool s0, .bool e0, .int .u64 n0, .bool s1, .bool e1, .int .u64 n1] 32)).alloc (.cells #[.int .u8 rq, .bool bl, .bool true, .bool ea, .int .u64 nd] 43)) (.cells #[.bool false, .bool false, .int .u64 0, .bool false, .bool false, .int .u64 0] 32)
  simp only [World.size_alloc] at hn1 hn2
  have Hn0 := Lib.hid hn0
  have Hn1 := Lib.hid hn1
  have Hn2 := Lib.hid hn2
  clear hn0 hn1 hn2
  go_enter Try.func7, Try.ntmps7
  go_wp2
  go_region_with (go_at_call 11; refine (carouselref14_Hear.same_at _ _ _ _ _ _ _ _ _ _ HE.out).mono ?_; rintro e' w1 ⟨rfl, hb⟩; have hB1 := carouselref14_Hear.call_b (w := w) (by repeat (with_reducible first | exact Below.refl _ _ | apply below_alloc | apply below_drew1 | apply pw_below_drewN | refine carouselref14_Hear.set_b ?_ (by simp <;> omega) _)) hb; have hP1 := blk_below (g := w.heap.size) (o := .cells #[.bool s0, .bool e0, .int .u64 n0, .bool s1, .bool e1, .int .u64 n1] 32 (0, 0)) (by have hn_ := Hn0.out; (with_reducible repeat (first | exact hn_ | refine blk_drewN ?_ _ | refine blk_drew ?_ | refine blk_alloc ?_ _))) hb; have hM1 := blk_below (g := w.heap.size + 1) (o := .cells #[.int .u8 rq, .bool bl, .bool true, .bool ea, .int .u64 nd] 43 (0, 0)) (by have hn_ := Hn1.out; (with_reducible repeat (first | exact hn_ | refine blk_drewN ?_ _ | refine blk_drew ?_ | refine blk_alloc ?_ _))) hb; have hR1 := blk_below (g := w.heap.size + 1 + 1) (o := .cells #[.bool false, .bool false, .int .u64 0, .bool false, .bool false, .int .u64 0] 32 (0, 0)) (by have hn_ := Hn2.out; (with_reducible repeat (first | exact hn_ | refine blk_drewN ?_ _ | refine blk_drew ?_ | refine blk_alloc ?_ _))) hb; clear hb)
  all_goals
    have p0 : w1.cell? ⟨w.heap.size, 0, none⟩ = some (.bool s0) := (blk_cell hP1 0).trans rfl
    have p1 : w1.cell? ⟨w.heap.size, 1, none⟩ = some (.bool e0) := (blk_cell hP1 1).trans rfl
    have p2 : w1.cell? ⟨w.heap.size, 2, none⟩ = some (.int .u64 n0) := (blk_cell hP1 2).trans rfl
    have p3 : w1.cell? ⟨w.heap.size, 3, none⟩ = some (.bool s1) := (blk_cell hP1 3).trans rfl
    have p4 : w1.cell? ⟨w.heap.size, 4, none⟩ = some (.bool e1) := (blk_cell hP1 4).trans rfl
    have p5 : w1.cell? ⟨w.heap.size, 5, none⟩ = some (.int .u64 n1) := (blk_cell hP1 5).trans rfl
    have m0 : w1.cell? ⟨w.heap.size + 1, 0, none⟩ = some (.int .u8 rq) := (blk_cell hM1 0).trans rfl
    have m1 : w1.cell? ⟨w.heap.size + 1, 1, none⟩ = some (.bool bl) := (blk_cell hM1 1).trans rfl
    have m2 : w1.cell? ⟨w.heap.size + 1, 2, none⟩ = some (.bool true) := (blk_cell hM1 2).trans rfl
    have m3 : w1.cell? ⟨w.heap.size + 1, 3, none⟩ = some (.bool ea) := (blk_cell hM1 3).trans rfl
    have m4 : w1.cell? ⟨w.heap.size + 1, 4, none⟩ = some (.int .u64 nd) := (blk_cell hM1 4).trans rfl
    have f0 := blk_frozen hP1 0
    have f1 := blk_frozen hP1 1
    have f2 := blk_frozen hP1 2
    have f3 := blk_frozen hP1 3
    have f4 := blk_frozen hP1 4
    have f5 := blk_frozen hP1 5
    go_wp2
    refine carouselref14_Hear.wp_W (fun W2 hW2 => ?_)
    have hB2 : Below w.heap.size w W2 := by
      rw [hW2]
      repeat (with_reducible first | exact hB1 | apply below_alloc | apply below_drew1 | apply pw_below_drewN | refine carouselref14_Hear.set_b ?_ (by simp <;> omega) _)
    have hP2 : W2.heap[w.heap.size]? = some (.cells #[.bool true, .bool ea, .int .u64 nd, .bool s1, .bool e1, .int .u64 n1] 32 (0, 0)) := by
      rw [hW2]
      have hn_ := hP1
      (with_reducible repeat (first | exact hn_ | refine blk_drewN ?_ _ | refine blk_drew ?_ | refine blk_alloc ?_ _))
      with_reducible refine blk_put (cs := #[.bool true, .bool ea, .int .u64 n0, .bool s1, .bool e1, .int .u64 n1]) ?_ 2 _ rfl
      (with_reducible repeat (first | exact hn_ | refine blk_drewN ?_ _ | refine blk_drew ?_ | refine blk_alloc ?_ _))
      with_reducible refine blk_put (cs := #[.bool true, .bool e0, .int .u64 n0, .bool s1, .bool e1, .int .u64 n1]) ?_ 1 _ rfl
      (with_reducible repeat (first | exact hn_ | refine blk_drewN ?_ _ | refine blk_drew ?_ | refine blk_alloc ?_ _))
      with_reducible refine blk_put (cs := #[.bool s0, .bool e0, .int .u64 n0, .bool s1, .bool e1, .int .u64 n1]) ?_ 0 _ rfl
      (with_reducible repeat (first | exact hn_ | refine blk_drewN ?_ _ | refine blk_drew ?_ | refine blk_alloc ?_ _))
    have hM2 : W2.heap[w.heap.size + 1]? = some (.cells #[.int .u8 rq, .bool bl, .bool true, .bool ea, .int .u64 nd] 43 (0, 0)) := by
      rw [hW2]
      have hn_ := hM1
      (with_reducible repeat (first | exact hn_ | refine blk_drewN ?_ _ | refine blk_drew ?_ | refine blk_alloc ?_ _))
      with_reducible refine blk_far ?_ (by simp <;> omega) _
      (with_reducible repeat (first | exact hn_ | refine blk_drewN ?_ _ | refine blk_drew ?_ | refine blk_alloc ?_ _))
      with_reducible refine blk_far ?_ (by simp <;> omega) _
      (with_reducible repeat (first | exact hn_ | refine blk_drewN ?_ _ | refine blk_drew ?_ | refine blk_alloc ?_ _))
      with_reducible refine blk_far ?_ (by simp <;> omega) _
      (with_reducible repeat (first | exact hn_ | refine blk_drewN ?_ _ | refine blk_drew ?_ | refine blk_alloc ?_ _))
    have hR2 : W2.heap[w.heap.size + 1 + 1]? = some (.cells #[.bool false, .bool false, .int .u64 0, .bool false, .bool false, .int .u64 0] 32 (0, 0)) := by
      rw [hW2]
      have hn_ := hR1
      (with_reducible repeat (first | exact hn_ | refine blk_drewN ?_ _ | refine blk_drew ?_ | refine blk_alloc ?_ _))
      with_reducible refine blk_far ?_ (by simp <;> omega) _
      (with_reducible repeat (first | exact hn_ | refine blk_drewN ?_ _ | refine blk_drew ?_ | refine blk_alloc ?_ _))
      with_reducible refine blk_far ?_ (by simp <;> omega) _
      (with_reducible repeat (first | exact hn_ | refine blk_drewN ?_ _ | refine blk_drew ?_ | refine blk_alloc ?_ _))
      with_reducible refine blk_far ?_ (by simp <;> omega) _
      (with_reducible repeat (first | exact hn_ | refine blk_drewN ?_ _ | refine blk_drew ?_ | refine blk_alloc ?_ _))
    clear hW2 hB1 hP1 hM1 hR1 f0 f1 f2 f3 f4 f5 p0 p1 p2 p3 p4 p5 m0 m1 m2 m3 m4
    have p0 : W2.cell? ⟨w.heap.size, 0, none⟩ = some (.bool true) := (blk_cell hP2 0).trans rfl
    have p1 : W2.cell? ⟨w.heap.size, 1, none⟩ = some (.bool ea) := (blk_cell hP2 1).trans rfl
    have p2 : W2.cell? ⟨w.heap.size, 2, none⟩ = some (.int .u64 nd) := (blk_cell hP2 2).trans rfl
    have p3 : W2.cell? ⟨w.heap.size, 3, none⟩ = some (.bool s1) := (blk_cell hP2 3).trans rfl
    have p4 : W2.cell? ⟨w.heap.size, 4, none⟩ = some (.bool e1) := (blk_cell hP2 4).trans rfl
    have p5 : W2.cell? ⟨w.heap.size, 5, none⟩ = some (.int .u64 n1) := (blk_cell hP2 5).trans rfl
    have m0 : W2.cell? ⟨w.heap.size + 1, 0, none⟩ = some (.int .u8 rq) := (blk_cell hM2 0).trans rfl
    have m1 : W2.cell? ⟨w.heap.size + 1, 1, none⟩ = some (.bool bl) := (blk_cell hM2 1).trans rfl
    have m2 : W2.cell? ⟨w.heap.size + 1, 2, none⟩ = some (.bool true) := (blk_cell hM2 2).trans rfl
    have m3 : W2.cell? ⟨w.heap.size + 1, 3, none⟩ = some (.bool ea) := (blk_cell hM2 3).trans rfl
    have m4 : W2.cell? ⟨w.heap.size + 1, 4, none⟩ = some (.int .u64 nd) := (blk_cell hM2 4).trans rfl
    have r0 : W2.cell? ⟨w.heap.size + 1 + 1, 0, none⟩ = some (.bool false) := (blk_cell hR2 0).trans rfl
    have r1 : W2.cell? ⟨w.heap.size + 1 + 1, 1, none⟩ = some (.bool false) := (blk_cell hR2 1).trans rfl
    have r2 : W2.cell? ⟨w.heap.size + 1 + 1, 2, none⟩ = some (.int .u64 0) := (blk_cell hR2 2).trans rfl
    have r3 : W2.cell? ⟨w.heap.size + 1 + 1, 3, none⟩ = some (.bool false) := (blk_cell hR2 3).trans rfl
    have r4 : W2.cell? ⟨w.heap.size + 1 + 1, 4, none⟩ = some (.bool false) := (blk_cell hR2 4).trans rfl
    have r5 : W2.cell? ⟨w.heap.size + 1 + 1, 5, none⟩ = some (.int .u64 0) := (blk_cell hR2 5).trans rfl
    have f0 := blk_frozen hR2 0
    have f1 := blk_frozen hR2 1
    have f2 := blk_frozen hR2 2
    have f3 := blk_frozen hR2 3
    have f4 := blk_frozen hR2 4
    have f5 := blk_frozen hR2 5
    go_quiet (fail)
    all_goals go_wp2
    all_goals
      refine carouselref14_Hear.post_W (fun W5 hW5 => ?_)
      have hB5 : Below w.heap.size w W5 := by
        rw [hW5]
        repeat (with_reducible first | exact hB2 | apply below_alloc | apply below_drew1 | apply pw_below_drewN | refine carouselref14_Hear.set_b ?_ (by simp <;> omega) _)
      have hR5 : W5.heap[w.heap.size + 1 + 1]? = some (.cells #[.bool true, .bool ea, .int .u64 nd, .bool s1, .bool e1, .int .u64 n1] 32 (0, 0)) := by
        rw [hW5]
        have hn_ := hR2
        (with_reducible repeat (first | exact hn_ | refine blk_drewN ?_ _ | refine blk_drew ?_ | refine blk_alloc ?_ _))
        with_reducible refine blk_put (cs := #[.bool true, .bool ea, .int .u64 nd, .bool s1, .bool e1, .int .u64 0]) ?_ 5 _ rfl
        (with_reducible repeat (first | exact hn_ | refine blk_drewN ?_ _ | refine blk_drew ?_ | refine blk_alloc ?_ _))
        with_reducible refine blk_put (cs := #[.bool true, .bool ea, .int .u64 nd, .bool s1, .bool false, .int .u64 0]) ?_ 4 _ rfl
        (with_reducible repeat (first | exact hn_ | refine blk_drewN ?_ _ | refine blk_drew ?_ | refine blk_alloc ?_ _))
        with_reducible refine blk_put (cs := #[.bool true, .bool ea, .int .u64 nd, .bool false, .bool false, .int .u64 0]) ?_ 3 _ rfl
        (with_reducible repeat (first | exact hn_ | refine blk_drewN ?_ _ | refine blk_drew ?_ | refine blk_alloc ?_ _))
        with_reducible refine blk_put (cs := #[.bool true, .bool ea, .int .u64 0, .bool false, .bool false, .int .u64 0]) ?_ 2 _ rfl
        (with_reducible repeat (first | exact hn_ | refine blk_drewN ?_ _ | refine blk_drew ?_ | refine blk_alloc ?_ _))
        with_reducible refine blk_put (cs := #[.bool true, .bool false, .int .u64 0, .bool false, .bool false, .int .u64 0]) ?_ 1 _ rfl
        (with_reducible repeat (first | exact hn_ | refine blk_drewN ?_ _ | refine blk_drew ?_ | refine blk_alloc ?_ _))
        with_reducible refine blk_put (cs := #[.bool false, .bool false, .int .u64 0, .bool false, .bool false, .int .u64 0]) ?_ 0 _ rfl
        (with_reducible repeat (first | exact hn_ | refine blk_drewN ?_ _ | refine blk_drew ?_ | refine blk_alloc ?_ _))
      have z0 : W5.cell? ⟨w.heap.size + 1 + 1, 0, none⟩ = some (.bool true) := (blk_cell hR5 0).trans rfl
      have z1 : W5.cell? ⟨w.heap.size + 1 + 1, 1, none⟩ = some (.bool ea) := (blk_cell hR5 1).trans rfl
      have z2 : W5.cell? ⟨w.heap.size + 1 + 1, 2, none⟩ = some (.int .u64 nd) := (blk_cell hR5 2).trans rfl
      have z3 : W5.cell? ⟨w.heap.size + 1 + 1, 3, none⟩ = some (.bool s1) := (blk_cell hR5 3).trans rfl
      have z4 : W5.cell? ⟨w.heap.size + 1 + 1, 4, none⟩ = some (.bool e1) := (blk_cell hR5 4).trans rfl
      have z5 : W5.cell? ⟨w.heap.size + 1 + 1, 5, none⟩ = some (.int .u64 n1) := (blk_cell hR5 5).trans rfl
      exact bodyPost_ret (v := .tuple #[.agg #[.bool true, .bool ea, .int .u64 nd, .bool s1, .bool e1, .int .u64 n1], .bool (false)]) (by simp [results, Try.results7, go_sem, z0, z1, z2, z3, z4, z5]) rfl ⟨rfl, hB5⟩
set_option maxHeartbeats 8000000 in
set_option maxRecDepth 100000 in
theorem carouselref14_Hear.d0af (s0 e0 : Bool) (n0 : Int) (s1 e1 : Bool) (n1 : Int) (rq : Int) (bl ea : Bool) (nd : Int) (b : Bool) (w : World) (hW : (rq == 0) = false) (hE : (s0 && (e0 == ea && n0 == nd)) = false) (hF : (s1 && (e1 == ea && n1 == nd)) = b) :
    Calls Try.prog 7 #[.agg #[.bool s0, .bool e0, .int .u64 n0, .bool s1, .bool e1, .int .u64 n1], .int .i64 0, .agg #[.int .u8 rq, .bool bl, .bool false, .bool ea, .int .u64 nd]] w fun e w' =>
      e = .returned (.tuple #[.agg #[.bool true, .bool ea, .int .u64 nd, .bool s1, .bool e1, .int .u64 n1], .bool (!b)]) ∧ Below w.heap.size w w' := by
  have huA := Try.underlying32
  have HE := Lib.hid hE
  have HF := Lib.hid hF
  clear hF
  clear hE
  have hn0 := blk_new w (.cells #[.bool s0, .bool e0, .int .u64 n0, .bool s1, .bool e1, .int .u64 n1] 32)
  have hn1 := blk_new (w.alloc (.cells #[.bool s0, .bool e0, .int .u64 n0, .bool s1, .bool e1, .int .u64 n1] 32)) (.cells #[.int .u8 rq, .bool bl, .bool false, .bool ea, .int .u64 nd] 43)
  have hn2 := blk_new ((w.alloc (.cells #[.bool s0, .bool e0, .int .u64 n0, .bool s1, .bool e1, .int .u64 n1] 32)).alloc (.cells #[.int .u8 rq, .bool bl, .bool false, .bool ea, .int .u64 nd] 43)) (.cells #[.bool false, .bool false, .int .u64 0, .bool false, .bool false, .int .u64 0] 32)
  simp only [World.size_alloc] at hn1 hn2
  have Hn0 := Lib.hid hn0
  have Hn1 := Lib.hid hn1
  have Hn2 := Lib.hid hn2
  clear hn0 hn1 hn2
  go_enter Try.func7, Try.ntmps7
  go_wp2
  go_region_with (go_at_call 11; refine (carouselref14_Hear.same_at _ _ _ _ _ _ _ _ _ _ HE.out).mono ?_; rintro e' w1 ⟨rfl, hb⟩; have hB1 := carouselref14_Hear.call_b (w := w) (by repeat (with_reducible first | exact Below.refl _ _ | apply below_alloc | apply below_drew1 | apply pw_below_drewN | refine carouselref14_Hear.set_b ?_ (by simp <;> omega) _)) hb; have hP1 := blk_below (g := w.heap.size) (o := .cells #[.bool s0, .bool e0, .int .u64 n0, .bool s1, .bool e1, .int .u64 n1] 32 (0, 0)) (by have hn_ := Hn0.out; (with_reducible repeat (first | exact hn_ | refine blk_drewN ?_ _ | refine blk_drew ?_ | refine blk_alloc ?_ _))) hb; have hM1 := blk_below (g := w.heap.size + 1) (o := .cells #[.int .u8 rq, .bool bl, .bool false, .bool ea, .int .u64 nd] 43 (0, 0)) (by have hn_ := Hn1.out; (with_reducible repeat (first | exact hn_ | refine blk_drewN ?_ _ | refine blk_drew ?_ | refine blk_alloc ?_ _))) hb; have hR1 := blk_below (g := w.heap.size + 1 + 1) (o := .cells #[.bool false, .bool false, .int .u64 0, .bool false, .bool false, .int .u64 0] 32 (0, 0)) (by have hn_ := Hn2.out; (with_reducible repeat (first | exact hn_ | refine blk_drewN ?_ _ | refine blk_drew ?_ | refine blk_alloc ?_ _))) hb; clear hb)
  all_goals
    have p0 : w1.cell? ⟨w.heap.size, 0, none⟩ = some (.bool s0) := (blk_cell hP1 0).trans rfl
    have p1 : w1.cell? ⟨w.heap.size, 1, none⟩ = some (.bool e0) := (blk_cell hP1 1).trans rfl
    have p2 : w1.cell? ⟨w.heap.size, 2, none⟩ = some (.int .u64 n0) := (blk_cell hP1 2).trans rfl
    have p3 : w1.cell? ⟨w.heap.size, 3, none⟩ = some (.bool s1) := (blk_cell hP1 3).trans rfl
    have p4 : w1.cell? ⟨w.heap.size, 4, none⟩ = some (.bool e1) := (blk_cell hP1 4).trans rfl
    have p5 : w1.cell? ⟨w.heap.size, 5, none⟩ = some (.int .u64 n1) := (blk_cell hP1 5).trans rfl
    have m0 : w1.cell? ⟨w.heap.size + 1, 0, none⟩ = some (.int .u8 rq) := (blk_cell hM1 0).trans rfl
    have m1 : w1.cell? ⟨w.heap.size + 1, 1, none⟩ = some (.bool bl) := (blk_cell hM1 1).trans rfl
    have m2 : w1.cell? ⟨w.heap.size + 1, 2, none⟩ = some (.bool false) := (blk_cell hM1 2).trans rfl
    have m3 : w1.cell? ⟨w.heap.size + 1, 3, none⟩ = some (.bool ea) := (blk_cell hM1 3).trans rfl
    have m4 : w1.cell? ⟨w.heap.size + 1, 4, none⟩ = some (.int .u64 nd) := (blk_cell hM1 4).trans rfl
    have f0 := blk_frozen hP1 0
    have f1 := blk_frozen hP1 1
    have f2 := blk_frozen hP1 2
    have f3 := blk_frozen hP1 3
    have f4 := blk_frozen hP1 4
    have f5 := blk_frozen hP1 5
    go_wp2
    refine carouselref14_Hear.wp_W (fun W2 hW2 => ?_)
    have hB2 : Below w.heap.size w W2 := by
      rw [hW2]
      repeat (with_reducible first | exact hB1 | apply below_alloc | apply below_drew1 | apply pw_below_drewN | refine carouselref14_Hear.set_b ?_ (by simp <;> omega) _)
    have hP2 : W2.heap[w.heap.size]? = some (.cells #[.bool true, .bool ea, .int .u64 nd, .bool s1, .bool e1, .int .u64 n1] 32 (0, 0)) := by
      rw [hW2]
      have hn_ := hP1
      (with_reducible repeat (first | exact hn_ | refine blk_drewN ?_ _ | refine blk_drew ?_ | refine blk_alloc ?_ _))
      with_reducible refine blk_put (cs := #[.bool true, .bool ea, .int .u64 n0, .bool s1, .bool e1, .int .u64 n1]) ?_ 2 _ rfl
      (with_reducible repeat (first | exact hn_ | refine blk_drewN ?_ _ | refine blk_drew ?_ | refine blk_alloc ?_ _))
      with_reducible refine blk_put (cs := #[.bool true, .bool e0, .int .u64 n0, .bool s1, .bool e1, .int .u64 n1]) ?_ 1 _ rfl
      (with_reducible repeat (first | exact hn_ | refine blk_drewN ?_ _ | refine blk_drew ?_ | refine blk_alloc ?_ _))
      with_reducible refine blk_put (cs := #[.bool s0, .bool e0, .int .u64 n0, .bool s1, .bool e1, .int .u64 n1]) ?_ 0 _ rfl
      (with_reducible repeat (first | exact hn_ | refine blk_drewN ?_ _ | refine blk_drew ?_ | refine blk_alloc ?_ _))
    have hM2 : W2.heap[w.heap.size + 1]? = some (.cells #[.int .u8 rq, .bool bl, .bool false, .bool ea, .int .u64 nd] 43 (0, 0)) := by
      rw [hW2]
      have hn_ := hM1
      (with_reducible repeat (first | exact hn_ | refine blk_drewN ?_ _ | refine blk_drew ?_ | refine blk_alloc ?_ _))
      with_reducible refine blk_far ?_ (by simp <;> omega) _
      (with_reducible repeat (first | exact hn_ | refine blk_drewN ?_ _ | refine blk_drew ?_ | refine blk_alloc ?_ _))
      with_reducible refine blk_far ?_ (by simp <;> omega) _
      (with_reducible repeat (first | exact hn_ | refine blk_drewN ?_ _ | refine blk_drew ?_ | refine blk_alloc ?_ _))
      with_reducible refine blk_far ?_ (by simp <;> omega) _
      (with_reducible repeat (first | exact hn_ | refine blk_drewN ?_ _ | refine blk_drew ?_ | refine blk_alloc ?_ _))
    have hR2 : W2.heap[w.heap.size + 1 + 1]? = some (.cells #[.bool false, .bool false, .int .u64 0, .bool false, .bool false, .int .u64 0] 32 (0, 0)) := by
      rw [hW2]
      have hn_ := hR1
      (with_reducible repeat (first | exact hn_ | refine blk_drewN ?_ _ | refine blk_drew ?_ | refine blk_alloc ?_ _))
      with_reducible refine blk_far ?_ (by simp <;> omega) _
      (with_reducible repeat (first | exact hn_ | refine blk_drewN ?_ _ | refine blk_drew ?_ | refine blk_alloc ?_ _))
      with_reducible refine blk_far ?_ (by simp <;> omega) _
      (with_reducible repeat (first | exact hn_ | refine blk_drewN ?_ _ | refine blk_drew ?_ | refine blk_alloc ?_ _))
      with_reducible refine blk_far ?_ (by simp <;> omega) _
      (with_reducible repeat (first | exact hn_ | refine blk_drewN ?_ _ | refine blk_drew ?_ | refine blk_alloc ?_ _))
    clear hW2 hB1 hP1 hM1 hR1 f0 f1 f2 f3 f4 f5 p0 p1 p2 p3 p4 p5 m0 m1 m2 m3 m4
    have p0 : W2.cell? ⟨w.heap.size, 0, none⟩ = some (.bool true) := (blk_cell hP2 0).trans rfl
    have p1 : W2.cell? ⟨w.heap.size, 1, none⟩ = some (.bool ea) := (blk_cell hP2 1).trans rfl
    have p2 : W2.cell? ⟨w.heap.size, 2, none⟩ = some (.int .u64 nd) := (blk_cell hP2 2).trans rfl
    have p3 : W2.cell? ⟨w.heap.size, 3, none⟩ = some (.bool s1) := (blk_cell hP2 3).trans rfl
    have p4 : W2.cell? ⟨w.heap.size, 4, none⟩ = some (.bool e1) := (blk_cell hP2 4).trans rfl
    have p5 : W2.cell? ⟨w.heap.size, 5, none⟩ = some (.int .u64 n1) := (blk_cell hP2 5).trans rfl
    have m0 : W2.cell? ⟨w.heap.size + 1, 0, none⟩ = some (.int .u8 rq) := (blk_cell hM2 0).trans rfl
    have m1 : W2.cell? ⟨w.heap.size + 1, 1, none⟩ = some (.bool bl) := (blk_cell hM2 1).trans rfl
    have m2 : W2.cell? ⟨w.heap.size + 1, 2, none⟩ = some (.bool false) := (blk_cell hM2 2).trans rfl
    have m3 : W2.cell? ⟨w.heap.size + 1, 3, none⟩ = some (.bool ea) := (blk_cell hM2 3).trans rfl
    have m4 : W2.cell? ⟨w.heap.size + 1, 4, none⟩ = some (.int .u64 nd) := (blk_cell hM2 4).trans rfl
    go_region_with (go_at_call 11; refine (carouselref14_Hear.same_at _ _ _ _ _ _ _ _ _ _ HF.out).mono ?_; rintro e' w3 ⟨rfl, hb⟩; have hB3 := carouselref14_Hear.call_b (w := w) (by repeat (with_reducible first | exact hB2 | apply below_alloc | apply below_drew1 | apply pw_below_drewN | refine carouselref14_Hear.set_b ?_ (by simp <;> omega) _)) hb; have hP3 := blk_below (g := w.heap.size) (o := .cells #[.bool true, .bool ea, .int .u64 nd, .bool s1, .bool e1, .int .u64 n1] 32 (0, 0)) (by have hn_ := hP2; (with_reducible repeat (first | exact hn_ | refine blk_drewN ?_ _ | refine blk_drew ?_ | refine blk_alloc ?_ _))) hb; have hM3 := blk_below (g := w.heap.size + 1) (o := .cells #[.int .u8 rq, .bool bl, .bool false, .bool ea, .int .u64 nd] 43 (0, 0)) (by have hn_ := hM2; (with_reducible repeat (first | exact hn_ | refine blk_drewN ?_ _ | refine blk_drew ?_ | refine blk_alloc ?_ _))) hb; have hR3 := blk_below (g := w.heap.size + 1 + 1) (o := .cells #[.bool false, .bool false, .int .u64 0, .bool false, .bool false, .int .u64 0] 32 (0, 0)) (by have hn_ := hR2; (with_reducible repeat (first | exact hn_ | refine blk_drewN ?_ _ | refine blk_drew ?_ | refine blk_alloc ?_ _))) hb; clear hb)
    all_goals
      clear p0 p1 p2 p3 p4 p5 m0 m1 m2 m3 m4
      have p0 : w3.cell? ⟨w.heap.size, 0, none⟩ = some (.bool true) := (blk_cell hP3 0).trans rfl
      have p1 : w3.cell? ⟨w.heap.size, 1, none⟩ = some (.bool ea) := (blk_cell hP3 1).trans rfl
      have p2 : w3.cell? ⟨w.heap.size, 2, none⟩ = some (.int .u64 nd) := (blk_cell hP3 2).trans rfl
      have p3 : w3.cell? ⟨w.heap.size, 3, none⟩ = some (.bool s1) := (blk_cell hP3 3).trans rfl
      have p4 : w3.cell? ⟨w.heap.size, 4, none⟩ = some (.bool e1) := (blk_cell hP3 4).trans rfl
      have p5 : w3.cell? ⟨w.heap.size, 5, none⟩ = some (.int .u64 n1) := (blk_cell hP3 5).trans rfl
      have r0 : w3.cell? ⟨w.heap.size + 1 + 1, 0, none⟩ = some (.bool false) := (blk_cell hR3 0).trans rfl
      have r1 : w3.cell? ⟨w.heap.size + 1 + 1, 1, none⟩ = some (.bool false) := (blk_cell hR3 1).trans rfl
      have r2 : w3.cell? ⟨w.heap.size + 1 + 1, 2, none⟩ = some (.int .u64 0) := (blk_cell hR3 2).trans rfl
      have r3 : w3.cell? ⟨w.heap.size + 1 + 1, 3, none⟩ = some (.bool false) := (blk_cell hR3 3).trans rfl
      have r4 : w3.cell? ⟨w.heap.size + 1 + 1, 4, none⟩ = some (.bool false) := (blk_cell hR3 4).trans rfl
      have r5 : w3.cell? ⟨w.heap.size + 1 + 1, 5, none⟩ = some (.int .u64 0) := (blk_cell hR3 5).trans rfl
      have f0 := blk_frozen hR3 0
      have f1 := blk_frozen hR3 1
      have f2 := blk_frozen hR3 2
      have f3 := blk_frozen hR3 3
      have f4 := blk_frozen hR3 4
      have f5 := blk_frozen hR3 5
      cases b
      all_goals
        go_wp2
        refine carouselref14_Hear.post_W (fun W5 hW5 => ?_)
        have hB5 : Below w.heap.size w W5 := by
          rw [hW5]
          repeat (with_reducible first | exact hB3 | apply below_alloc | apply below_drew1 | apply pw_below_drewN | refine carouselref14_Hear.set_b ?_ (by simp <;> omega) _)
        have hR5 : W5.heap[w.heap.size + 1 + 1]? = some (.cells #[.bool true, .bool ea, .int .u64 nd, .bool s1, .bool e1, .int .u64 n1] 32 (0, 0)) := by
          rw [hW5]
          have hn_ := hR3
          (with_reducible repeat (first | exact hn_ | refine blk_drewN ?_ _ | refine blk_drew ?_ | refine blk_alloc ?_ _))
          with_reducible refine blk_put (cs := #[.bool true, .bool ea, .int .u64 nd, .bool s1, .bool e1, .int .u64 0]) ?_ 5 _ rfl
          (with_reducible repeat (first | exact hn_ | refine blk_drewN ?_ _ | refine blk_drew ?_ | refine blk_alloc ?_ _))
          with_reducible refine blk_put (cs := #[.bool true, .bool ea, .int .u64 nd, .bool s1, .bool false, .int .u64 0]) ?_ 4 _ rfl
          (with_reducible repeat (first | exact hn_ | refine blk_drewN ?_ _ | refine blk_drew ?_ | refine blk_alloc ?_ _))
          with_reducible refine blk_put (cs := #[.bool true, .bool ea, .int .u64 nd, .bool false, .bool false, .int .u64 0]) ?_ 3 _ rfl
          (with_reducible repeat (first | exact hn_ | refine blk_drewN ?_ _ | refine blk_drew ?_ | refine blk_alloc ?_ _))
          with_reducible refine blk_put (cs := #[.bool true, .bool ea, .int .u64 0, .bool false, .bool false, .int .u64 0]) ?_ 2 _ rfl
          (with_reducible repeat (first | exact hn_ | refine blk_drewN ?_ _ | refine blk_drew ?_ | refine blk_alloc ?_ _))
          with_reducible refine blk_put (cs := #[.bool true, .bool false, .int .u64 0, .bool false, .bool false, .int .u64 0]) ?_ 1 _ rfl
          (with_reducible repeat (first | exact hn_ | refine blk_drewN ?_ _ | refine blk_drew ?_ | refine blk_alloc ?_ _))
          with_reducible refine blk_put (cs := #[.bool false, .bool false, .int .u64 0, .bool false, .bool false, .int .u64 0]) ?_ 0 _ rfl
          (with_reducible repeat (first | exact hn_ | refine blk_drewN ?_ _ | refine blk_drew ?_ | refine blk_alloc ?_ _))
        have z0 : W5.cell? ⟨w.heap.size + 1 + 1, 0, none⟩ = some (.bool true) := (blk_cell hR5 0).trans rfl
        have z1 : W5.cell? ⟨w.heap.size + 1 + 1, 1, none⟩ = some (.bool ea) := (blk_cell hR5 1).trans rfl
        have z2 : W5.cell? ⟨w.heap.size + 1 + 1, 2, none⟩ = some (.int .u64 nd) := (blk_cell hR5 2).trans rfl
        have z3 : W5.cell? ⟨w.heap.size + 1 + 1, 3, none⟩ = some (.bool s1) := (blk_cell hR5 3).trans rfl
        have z4 : W5.cell? ⟨w.heap.size + 1 + 1, 4, none⟩ = some (.bool e1) := (blk_cell hR5 4).trans rfl
        have z5 : W5.cell? ⟨w.heap.size + 1 + 1, 5, none⟩ = some (.int .u64 n1) := (blk_cell hR5 5).trans rfl
        first | exact bodyPost_ret (v := .tuple #[.agg #[.bool true, .bool ea, .int .u64 nd, .bool s1, .bool e1, .int .u64 n1], .bool (true)]) (by simp [results, Try.results7, go_sem, z0, z1, z2, z3, z4, z5]) rfl ⟨rfl, hB5⟩ | exact bodyPost_ret (v := .tuple #[.agg #[.bool true, .bool ea, .int .u64 nd, .bool s1, .bool e1, .int .u64 n1], .bool (false)]) (by simp [results, Try.results7, go_sem, z0, z1, z2, z3, z4, z5]) rfl ⟨rfl, hB5⟩
set_option maxHeartbeats 8000000 in
set_option maxRecDepth 100000 in
theorem carouselref14_Hear.s0b (s0 e0 : Bool) (n0 : Int) (s1 e1 : Bool) (n1 : Int) (kp ea : Bool) (nd : Int) (w : World) (hE : (s0 && (e0 == ea && n0 == nd)) = true) :
    Calls Try.prog 7 #[.agg #[.bool s0, .bool e0, .int .u64 n0, .bool s1, .bool e1, .int .u64 n1], .int .i64 0, .agg #[.int .u8 0, .bool true, .bool kp, .bool ea, .int .u64 nd]] w fun e w' =>
      e = .returned (.tuple #[.agg #[.bool s0, .bool e0, .int .u64 n0, .bool s1, .bool e1, .int .u64 n1], .bool (false)]) ∧ Below w.heap.size w w' := by
  have huA := Try.underlying32
  have HE := Lib.hid hE
  clear hE
  have hn0 := blk_new w (.cells #[.bool s0, .bool e0, .int .u64 n0, .bool s1, .bool e1, .int .u64 n1] 32)
  have hn1 := blk_new (w.alloc (.cells #[.bool s0, .bool e0, .int .u64 n0, .bool s1, .bool e1, .int .u64 n1] 32)) (.cells #[.int .u8 0, .bool true, .bool kp, .bool ea, .int .u64 nd] 43)
  have hn2 := blk_new ((w.alloc (.cells #[.bool s0, .bool e0, .int .u64 n0, .bool s1, .bool e1, .int .u64 n1] 32)).alloc (.cells #[.int .u8 0, .bool true, .bool kp, .bool ea, .int .u64 nd] 43)) (.cells #[.bool false, .bool false, .int .u64 0, .bool false, .bool false, .int .u64 0] 32)
  simp only [World.size_alloc] at hn1 hn2
  have Hn0 := Lib.hid hn0
  have Hn1 := Lib.hid hn1
  have Hn2 := Lib.hid hn2
  clear hn0 hn1 hn2
  go_enter Try.func7, Try.ntmps7
  go_wp2
  go_region_with (go_at_call 11; refine (carouselref14_Hear.same_at _ _ _ _ _ _ _ _ _ _ HE.out).mono ?_; rintro e' w1 ⟨rfl, hb⟩; have hB1 := carouselref14_Hear.call_b (w := w) (by repeat (with_reducible first | exact Below.refl _ _ | apply below_alloc | apply below_drew1 | apply pw_below_drewN | refine carouselref14_Hear.set_b ?_ (by simp <;> omega) _)) hb; have hP1 := blk_below (g := w.heap.size) (o := .cells #[.bool s0, .bool e0, .int .u64 n0, .bool s1, .bool e1, .int .u64 n1] 32 (0, 0)) (by have hn_ := Hn0.out; (with_reducible repeat (first | exact hn_ | refine blk_drewN ?_ _ | refine blk_drew ?_ | refine blk_alloc ?_ _))) hb; have hM1 := blk_below (g := w.heap.size + 1) (o := .cells #[.int .u8 0, .bool true, .bool kp, .bool ea, .int .u64 nd] 43 (0, 0)) (by have hn_ := Hn1.out; (with_reducible repeat (first | exact hn_ | refine blk_drewN ?_ _ | refine blk_drew ?_ | refine blk_alloc ?_ _))) hb; have hR1 := blk_below (g := w.heap.size + 1 + 1) (o := .cells #[.bool false, .bool false, .int .u64 0, .bool false, .bool false, .int .u64 0] 32 (0, 0)) (by have hn_ := Hn2.out; (with_reducible repeat (first | exact hn_ | refine blk_drewN ?_ _ | refine blk_drew ?_ | refine blk_alloc ?_ _))) hb; clear hb)
  all_goals
    have p0 : w1.cell? ⟨w.heap.size, 0, none⟩ = some (.bool s0) := (blk_cell hP1 0).trans rfl
    have p1 : w1.cell? ⟨w.heap.size, 1, none⟩ = some (.bool e0) := (blk_cell hP1 1).trans rfl
    have p2 : w1.cell? ⟨w.heap.size, 2, none⟩ = some (.int .u64 n0) := (blk_cell hP1 2).trans rfl
    have p3 : w1.cell? ⟨w.heap.size, 3, none⟩ = some (.bool s1) := (blk_cell hP1 3).trans rfl
    have p4 : w1.cell? ⟨w.heap.size, 4, none⟩ = some (.bool e1) := (blk_cell hP1 4).trans rfl
    have p5 : w1.cell? ⟨w.heap.size, 5, none⟩ = some (.int .u64 n1) := (blk_cell hP1 5).trans rfl
    have r0 : w1.cell? ⟨w.heap.size + 1 + 1, 0, none⟩ = some (.bool false) := (blk_cell hR1 0).trans rfl
    have r1 : w1.cell? ⟨w.heap.size + 1 + 1, 1, none⟩ = some (.bool false) := (blk_cell hR1 1).trans rfl
    have r2 : w1.cell? ⟨w.heap.size + 1 + 1, 2, none⟩ = some (.int .u64 0) := (blk_cell hR1 2).trans rfl
    have r3 : w1.cell? ⟨w.heap.size + 1 + 1, 3, none⟩ = some (.bool false) := (blk_cell hR1 3).trans rfl
    have r4 : w1.cell? ⟨w.heap.size + 1 + 1, 4, none⟩ = some (.bool false) := (blk_cell hR1 4).trans rfl
    have r5 : w1.cell? ⟨w.heap.size + 1 + 1, 5, none⟩ = some (.int .u64 0) := (blk_cell hR1 5).trans rfl
    have f0 := blk_frozen hR1 0
    have f1 := blk_frozen hR1 1
    have f2 := blk_frozen hR1 2
    have f3 := blk_frozen hR1 3
    have f4 := blk_frozen hR1 4
    have f5 := blk_frozen hR1 5
    go_wp2
    refine carouselref14_Hear.post_W (fun W5 hW5 => ?_)
    have hB5 : Below w.heap.size w W5 := by
      rw [hW5]
      repeat (with_reducible first | exact hB1 | apply below_alloc | apply below_drew1 | apply pw_below_drewN | refine carouselref14_Hear.set_b ?_ (by simp <;> omega) _)
    have hR5 : W5.heap[w.heap.size + 1 + 1]? = some (.cells #[.bool s0, .bool e0, .int .u64 n0, .bool s1, .bool e1, .int .u64 n1] 32 (0, 0)) := by
      rw [hW5]
      have hn_ := hR1
      (with_reducible repeat (first | exact hn_ | refine blk_drewN ?_ _ | refine blk_drew ?_ | refine blk_alloc ?_ _))
      with_reducible refine blk_put (cs := #[.bool s0, .bool e0, .int .u64 n0, .bool s1, .bool e1, .int .u64 0]) ?_ 5 _ rfl
      (with_reducible repeat (first | exact hn_ | refine blk_drewN ?_ _ | refine blk_drew ?_ | refine blk_alloc ?_ _))
      with_reducible refine blk_put (cs := #[.bool s0, .bool e0, .int .u64 n0, .bool s1, .bool false, .int .u64 0]) ?_ 4 _ rfl
      (with_reducible repeat (first | exact hn_ | refine blk_drewN ?_ _ | refine blk_drew ?_ | refine blk_alloc ?_ _))
      with_reducible refine blk_put (cs := #[.bool s0, .bool e0, .int .u64 n0, .bool false, .bool false, .int .u64 0]) ?_ 3 _ rfl
      (with_reducible repeat (first | exact hn_ | refine blk_drewN ?_ _ | refine blk_drew ?_ | refine blk_alloc ?_ _))
      with_reducible refine blk_put (cs := #[.bool s0, .bool e0, .int .u64 0, .bool false, .bool false, .int .u64 0]) ?_ 2 _ rfl
      (with_reducible repeat (first | exact hn_ | refine blk_drewN ?_ _ | refine blk_drew ?_ | refine blk_alloc ?_ _))
      with_reducible refine blk_put (cs := #[.bool s0, .bool false, .int .u64 0, .bool false, .bool false, .int .u64 0]) ?_ 1 _ rfl
      (with_reducible repeat (first | exact hn_ | refine blk_drewN ?_ _ | refine blk_drew ?_ | refine blk_alloc ?_ _))
      with_reducible refine blk_put (cs := #[.bool false, .bool false, .int .u64 0, .bool false, .bool false, .int .u64 0]) ?_ 0 _ rfl
      (with_reducible repeat (first | exact hn_ | refine blk_drewN ?_ _ | refine blk_drew ?_ | refine blk_alloc ?_ _))
    have z0 : W5.cell? ⟨w.heap.size + 1 + 1, 0, none⟩ = some (.bool s0) := (blk_cell hR5 0).trans rfl
    have z1 : W5.cell? ⟨w.heap.size + 1 + 1, 1, none⟩ = some (.bool e0) := (blk_cell hR5 1).trans rfl
    have z2 : W5.cell? ⟨w.heap.size + 1 + 1, 2, none⟩ = some (.int .u64 n0) := (blk_cell hR5 2).trans rfl
    have z3 : W5.cell? ⟨w.heap.size + 1 + 1, 3, none⟩ = some (.bool s1) := (blk_cell hR5 3).trans rfl
    have z4 : W5.cell? ⟨w.heap.size + 1 + 1, 4, none⟩ = some (.bool e1) := (blk_cell hR5 4).trans rfl
    have z5 : W5.cell? ⟨w.heap.size + 1 + 1, 5, none⟩ = some (.int .u64 n1) := (blk_cell hR5 5).trans rfl
    exact bodyPost_ret (v := .tuple #[.agg #[.bool s0, .bool e0, .int .u64 n0, .bool s1, .bool e1, .int .u64 n1], .bool (false)]) (by simp [results, Try.results7, go_sem, z0, z1, z2, z3, z4, z5]) rfl ⟨rfl, hB5⟩
set_option maxHeartbeats 8000000 in
set_option maxRecDepth 100000 in
theorem carouselref14_Hear.d0bt (s0 e0 : Bool) (n0 : Int) (s1 e1 : Bool) (n1 : Int) (ea : Bool) (nd : Int) (w : World) (hE : (s0 && (e0 == ea && n0 == nd)) = false) :
    Calls Try.prog 7 #[.agg #[.bool s0, .bool e0, .int .u64 n0, .bool s1, .bool e1, .int .u64 n1], .int .i64 0, .agg #[.int .u8 0, .bool true, .bool true, .bool ea, .int .u64 nd]] w fun e w' =>
      e = .returned (.tuple #[.agg #[.bool true, .bool ea, .int .u64 nd, .bool s1, .bool e1, .int .u64 n1], .bool (false)]) ∧ Below w.heap.size w w' := by
  have huA := Try.underlying32
  have HE := Lib.hid hE
  clear hE
  have hn0 := blk_new w (.cells #[.bool s0, .bool e0, .int .u64 n0, .bool s1, .bool e1, .int .u64 n1] 32)
  have hn1 := blk_new (w.alloc (.cells #[.bool s0, .bool e0, .int .u64 n0, .bool s1, .bool e1, .int .u64 n1] 32)) (.cells #[.int .u8 0, .bool true, .bool true, .bool ea, .int .u64 nd] 43)
  have hn2 := blk_new ((w.alloc (.cells #[.bool s0, .bool e0, .int .u64 n0, .bool s1, .bool e1, .int .u64 n1] 32)).alloc (.cells #[.int .u8 0, .bool true, .bool true, .bool ea, .int .u64 nd] 43)) (.cells #[.bool false, .bool false, .int .u64 0, .bool false, .bool false, .int .u64 0] 32)
  simp only [World.size_alloc] at hn1 hn2
  have Hn0 := Lib.hid hn0
  have Hn1 := Lib.hid hn1
  have Hn2 := Lib.hid hn2
  clear hn0 hn1 hn2
  go_enter Try.func7, Try.ntmps7
  go_wp2
  go_region_with (go_at_call 11; refine (carouselref14_Hear.same_at _ _ _ _ _ _ _ _ _ _ HE.out).mono ?_; rintro e' w1 ⟨rfl, hb⟩; have hB1 := carouselref14_Hear.call_b (w := w) (by repeat (with_reducible first | exact Below.refl _ _ | apply below_alloc | apply below_drew1 | apply pw_below_drewN | refine carouselref14_Hear.set_b ?_ (by simp <;> omega) _)) hb; have hP1 := blk_below (g := w.heap.size) (o := .cells #[.bool s0, .bool e0, .int .u64 n0, .bool s1, .bool e1, .int .u64 n1] 32 (0, 0)) (by have hn_ := Hn0.out; (with_reducible repeat (first | exact hn_ | refine blk_drewN ?_ _ | refine blk_drew ?_ | refine blk_alloc ?_ _))) hb; have hM1 := blk_below (g := w.heap.size + 1) (o := .cells #[.int .u8 0, .bool true, .bool true, .bool ea, .int .u64 nd] 43 (0, 0)) (by have hn_ := Hn1.out; (with_reducible repeat (first | exact hn_ | refine blk_drewN ?_ _ | refine blk_drew ?_ | refine blk_alloc ?_ _))) hb; have hR1 := blk_below (g := w.heap.size + 1 + 1) (o := .cells #[.bool false, .bool false, .int .u64 0, .bool false, .bool false, .int .u64 0] 32 (0, 0)) (by have hn_ := Hn2.out; (with_reducible repeat (first | exact hn_ | refine blk_drewN ?_ _ | refine blk_drew ?_ | refine blk_alloc ?_ _))) hb; clear hb)
  all_goals
    have p0 : w1.cell? ⟨w.heap.size, 0, none⟩ = some (.bool s0) := (blk_cell hP1 0).trans rfl
    have p1 : w1.cell? ⟨w.heap.size, 1, none⟩ = some (.bool e0) := (blk_cell hP1 1).trans rfl
    have p2 : w1.cell? ⟨w.heap.size, 2, none⟩ = some (.int .u64 n0) := (blk_cell hP1 2).trans rfl
    have p3 : w1.cell? ⟨w.heap.size, 3, none⟩ = some (.bool s1) := (blk_cell hP1 3).trans rfl
    have p4 : w1.cell? ⟨w.heap.size, 4, none⟩ = some (.bool e1) := (blk_cell hP1 4).trans rfl
    have p5 : w1.cell? ⟨w.heap.size, 5, none⟩ = some (.int .u64 n1) := (blk_cell hP1 5).trans rfl
    have m0 : w1.cell? ⟨w.heap.size + 1, 0, none⟩ = some (.int .u8 0) := (blk_cell hM1 0).trans rfl
    have m1 : w1.cell? ⟨w.heap.size + 1, 1, none⟩ = some (.bool true) := (blk_cell hM1 1).trans rfl
    have m2 : w1.cell? ⟨w.heap.size + 1, 2, none⟩ = some (.bool true) := (blk_cell hM1 2).trans rfl
    have m3 : w1.cell? ⟨w.heap.size + 1, 3, none⟩ = some (.bool ea) := (blk_cell hM1 3).trans rfl
    have m4 : w1.cell? ⟨w.heap.size + 1, 4, none⟩ = some (.int .u64 nd) := (blk_cell hM1 4).trans rfl
    have f0 := blk_frozen hP1 0
    have f1 := blk_frozen hP1 1
    have f2 := blk_frozen hP1 2
    have f3 := blk_frozen hP1 3
    have f4 := blk_frozen hP1 4
    have f5 := blk_frozen hP1 5
    go_wp2
    refine carouselref14_Hear.wp_W (fun W2 hW2 => ?_)
    have hB2 : Below w.heap.size w W2 := by
      rw [hW2]
      repeat (with_reducible first | exact hB1 | apply below_alloc | apply below_drew1 | apply pw_below_drewN | refine carouselref14_Hear.set_b ?_ (by simp <;> omega) _)
    have hP2 : W2.heap[w.heap.size]? = some (.cells #[.bool true, .bool ea, .int .u64 nd, .bool s1, .bool e1, .int .u64 n1] 32 (0, 0)) := by
      rw [hW2]
      have hn_ := hP1
      (with_reducible repeat (first | exact hn_ | refine blk_drewN ?_ _ | refine blk_drew ?_ | refine blk_alloc ?_ _))
      with_reducible refine blk_put (cs := #[.bool true, .bool ea, .int .u64 n0, .bool s1, .bool e1, .int .u64 n1]) ?_ 2 _ rfl
      (with_reducible repeat (first | exact hn_ | refine blk_drewN ?_ _ | refine blk_drew ?_ | refine blk_alloc ?_ _))
      with_reducible refine blk_put (cs := #[.bool true, .bool e0, .int .u64 n0, .bool s1, .bool e1, .int .u64 n1]) ?_ 1 _ rfl
      (with_reducible repeat (first | exact hn_ | refine blk_drewN ?_ _ | refine blk_drew ?_ | refine blk_alloc ?_ _))
      with_reducible refine blk_put (cs := #[.bool s0, .bool e0, .int .u64 n0, .bool s1, .bool e1, .int .u64 n1]) ?_ 0 _ rfl
      (with_reducible repeat (first | exact hn_ | refine blk_drewN ?_ _ | refine blk_drew ?_ | refine blk_alloc ?_ _))
    have hM2 : W2.heap[w.heap.size + 1]? = some (.cells #[.int .u8 0, .bool true, .bool true, .bool ea, .int .u64 nd] 43 (0, 0)) := by
      rw [hW2]
      have hn_ := hM1
      (with_reducible repeat (first | exact hn_ | refine blk_drewN ?_ _ | refine blk_drew ?_ | refine blk_alloc ?_ _))
      with_reducible refine blk_far ?_ (by simp <;> omega) _
      (with_reducible repeat (first | exact hn_ | refine blk_drewN ?_ _ | refine blk_drew ?_ | refine blk_alloc ?_ _))
      with_reducible refine blk_far ?_ (by simp <;> omega) _
      (with_reducible repeat (first | exact hn_ | refine blk_drewN ?_ _ | refine blk_drew ?_ | refine blk_alloc ?_ _))
      with_reducible refine blk_far ?_ (by simp <;> omega) _
      (with_reducible repeat (first | exact hn_ | refine blk_drewN ?_ _ | refine blk_drew ?_ | refine blk_alloc ?_ _))
    have hR2 : W2.heap[w.heap.size + 1 + 1]? = some (.cells #[.bool false, .bool false, .int .u64 0, .bool false, .bool false, .int .u64 0] 32 (0, 0)) := by
      rw [hW2]
      have hn_ := hR1
      (with_reducible repeat (first | exact hn_ | refine blk_drewN ?_ _ | refine blk_drew ?_ | refine blk_alloc ?_ _))
      with_reducible refine blk_far ?_ (by simp <;> omega) _
      (with_reducible repeat (first | exact hn_ | refine blk_drewN ?_ _ | refine blk_drew ?_ | refine blk_alloc ?_ _))
      with_reducible refine blk_far ?_ (by simp <;> omega) _
      (with_reducible repeat (first | exact hn_ | refine blk_drewN ?_ _ | refine blk_drew ?_ | refine blk_alloc ?_ _))
      with_reducible refine blk_far ?_ (by simp <;> omega) _
      (with_reducible repeat (first | exact hn_ | refine blk_drewN ?_ _ | refine blk_drew ?_ | refine blk_alloc ?_ _))
    clear hW2 hB1 hP1 hM1 hR1 f0 f1 f2 f3 f4 f5 p0 p1 p2 p3 p4 p5 m0 m1 m2 m3 m4
    have p0 : W2.cell? ⟨w.heap.size, 0, none⟩ = some (.bool true) := (blk_cell hP2 0).trans rfl
    have p1 : W2.cell? ⟨w.heap.size, 1, none⟩ = some (.bool ea) := (blk_cell hP2 1).trans rfl
    have p2 : W2.cell? ⟨w.heap.size, 2, none⟩ = some (.int .u64 nd) := (blk_cell hP2 2).trans rfl
    have p3 : W2.cell? ⟨w.heap.size, 3, none⟩ = some (.bool s1) := (blk_cell hP2 3).trans rfl
    have p4 : W2.cell? ⟨w.heap.size, 4, none⟩ = some (.bool e1) := (blk_cell hP2 4).trans rfl
    have p5 : W2.cell? ⟨w.heap.size, 5, none⟩ = some (.int .u64 n1) := (blk_cell hP2 5).trans rfl
    have m0 : W2.cell? ⟨w.heap.size + 1, 0, none⟩ = some (.int .u8 0) := (blk_cell hM2 0).trans rfl
    have m1 : W2.cell? ⟨w.heap.size + 1, 1, none⟩ = some (.bool true) := (blk_cell hM2 1).trans rfl
    have m2 : W2.cell? ⟨w.heap.size + 1, 2, none⟩ = some (.bool true) := (blk_cell hM2 2).trans rfl
    have m3 : W2.cell? ⟨w.heap.size + 1, 3, none⟩ = some (.bool ea) := (blk_cell hM2 3).trans rfl
    have m4 : W2.cell? ⟨w.heap.size + 1, 4, none⟩ = some (.int .u64 nd) := (blk_cell hM2 4).trans rfl
    have r0 : W2.cell? ⟨w.heap.size + 1 + 1, 0, none⟩ = some (.bool false) := (blk_cell hR2 0).trans rfl
    have r1 : W2.cell? ⟨w.heap.size + 1 + 1, 1, none⟩ = some (.bool false) := (blk_cell hR2 1).trans rfl
    have r2 : W2.cell? ⟨w.heap.size + 1 + 1, 2, none⟩ = some (.int .u64 0) := (blk_cell hR2 2).trans rfl
    have r3 : W2.cell? ⟨w.heap.size + 1 + 1, 3, none⟩ = some (.bool false) := (blk_cell hR2 3).trans rfl
    have r4 : W2.cell? ⟨w.heap.size + 1 + 1, 4, none⟩ = some (.bool false) := (blk_cell hR2 4).trans rfl
    have r5 : W2.cell? ⟨w.heap.size + 1 + 1, 5, none⟩ = some (.int .u64 0) := (blk_cell hR2 5).trans rfl
    have f0 := blk_frozen hR2 0
    have f1 := blk_frozen hR2 1
    have f2 := blk_frozen hR2 2
    have f3 := blk_frozen hR2 3
    have f4 := blk_frozen hR2 4
    have f5 := blk_frozen hR2 5
    go_quiet (fail)
    all_goals go_wp2
    all_goals
      refine carouselref14_Hear.post_W (fun W5 hW5 => ?_)
      have hB5 : Below w.heap.size w W5 := by
        rw [hW5]
        repeat (with_reducible first | exact hB2 | apply below_alloc | apply below_drew1 | apply pw_below_drewN | refine carouselref14_Hear.set_b ?_ (by simp <;> omega) _)
      have hR5 : W5.heap[w.heap.size + 1 + 1]? = some (.cells #[.bool true, .bool ea, .int .u64 nd, .bool s1, .bool e1, .int .u64 n1] 32 (0, 0)) := by
        rw [hW5]
        have hn_ := hR2
        (with_reducible repeat (first | exact hn_ | refine blk_drewN ?_ _ | refine blk_drew ?_ | refine blk_alloc ?_ _))
        with_reducible refine blk_put (cs := #[.bool true, .bool ea, .int .u64 nd, .bool s1, .bool e1, .int .u64 0]) ?_ 5 _ rfl
        (with_reducible repeat (first | exact hn_ | refine blk_drewN ?_ _ | refine blk_drew ?_ | refine blk_alloc ?_ _))
        with_reducible refine blk_put (cs := #[.bool true, .bool ea, .int .u64 nd, .bool s1, .bool false, .int .u64 0]) ?_ 4 _ rfl
        (with_reducible repeat (first | exact hn_ | refine blk_drewN ?_ _ | refine blk_drew ?_ | refine blk_alloc ?_ _))
        with_reducible refine blk_put (cs := #[.bool true, .bool ea, .int .u64 nd, .bool false, .bool false, .int .u64 0]) ?_ 3 _ rfl
        (with_reducible repeat (first | exact hn_ | refine blk_drewN ?_ _ | refine blk_drew ?_ | refine blk_alloc ?_ _))
        with_reducible refine blk_put (cs := #[.bool true, .bool ea, .int .u64 0, .bool false, .bool false, .int .u64 0]) ?_ 2 _ rfl
        (with_reducible repeat (first | exact hn_ | refine blk_drewN ?_ _ | refine blk_drew ?_ | refine blk_alloc ?_ _))
        with_reducible refine blk_put (cs := #[.bool true, .bool false, .int .u64 0, .bool false, .bool false, .int .u64 0]) ?_ 1 _ rfl
        (with_reducible repeat (first | exact hn_ | refine blk_drewN ?_ _ | refine blk_drew ?_ | refine blk_alloc ?_ _))
        with_reducible refine blk_put (cs := #[.bool false, .bool false, .int .u64 0, .bool false, .bool false, .int .u64 0]) ?_ 0 _ rfl
        (with_reducible repeat (first | exact hn_ | refine blk_drewN ?_ _ | refine blk_drew ?_ | refine blk_alloc ?_ _))
      have z0 : W5.cell? ⟨w.heap.size + 1 + 1, 0, none⟩ = some (.bool true) := (blk_cell hR5 0).trans rfl
      have z1 : W5.cell? ⟨w.heap.size + 1 + 1, 1, none⟩ = some (.bool ea) := (blk_cell hR5 1).trans rfl
      have z2 : W5.cell? ⟨w.heap.size + 1 + 1, 2, none⟩ = some (.int .u64 nd) := (blk_cell hR5 2).trans rfl
      have z3 : W5.cell? ⟨w.heap.size + 1 + 1, 3, none⟩ = some (.bool s1) := (blk_cell hR5 3).trans rfl
      have z4 : W5.cell? ⟨w.heap.size + 1 + 1, 4, none⟩ = some (.bool e1) := (blk_cell hR5 4).trans rfl
      have z5 : W5.cell? ⟨w.heap.size + 1 + 1, 5, none⟩ = some (.int .u64 n1) := (blk_cell hR5 5).trans rfl
      exact bodyPost_ret (v := .tuple #[.agg #[.bool true, .bool ea, .int .u64 nd, .bool s1, .bool e1, .int .u64 n1], .bool (false)]) (by simp [results, Try.results7, go_sem, z0, z1, z2, z3, z4, z5]) rfl ⟨rfl, hB5⟩
set_option maxHeartbeats 8000000 in
set_option maxRecDepth 100000 in
theorem carouselref14_Hear.d0bf (s0 e0 : Bool) (n0 : Int) (s1 e1 : Bool) (n1 : Int) (ea : Bool) (nd : Int) (b : Bool) (w : World) (hE : (s0 && (e0 == ea && n0 == nd)) = false) (hF : (s1 && (e1 == ea && n1 == nd)) = b) :
    Calls Try.prog 7 #[.agg #[.bool s0, .bool e0, .int .u64 n0, .bool s1, .bool e1, .int .u64 n1], .int .i64 0, .agg #[.int .u8 0, .bool true, .bool false, .bool ea, .int .u64 nd]] w fun e w' =>
      e = .returned (.tuple #[.agg #[.bool true, .bool ea, .int .u64 nd, .bool s1, .bool e1, .int .u64 n1], .bool (!b)]) ∧ Below w.heap.size w w' := by
  have huA := Try.underlying32
  have HE := Lib.hid hE
  have HF := Lib.hid hF
  clear hF
  clear hE
  have hn0 := blk_new w (.cells #[.bool s0, .bool e0, .int .u64 n0, .bool s1, .bool e1, .int .u64 n1] 32)
  have hn1 := blk_new (w.alloc (.cells #[.bool s0, .bool e0, .int .u64 n0, .bool s1, .bool e1, .int .u64 n1] 32)) (.cells #[.int .u8 0, .bool true, .bool false, .bool ea, .int .u64 nd] 43)
  have hn2 := blk_new ((w.alloc (.cells #[.bool s0, .bool e0, .int .u64 n0, .bool s1, .bool e1, .int .u64 n1] 32)).alloc (.cells #[.int .u8 0, .bool true, .bool false, .bool ea, .int .u64 nd] 43)) (.cells #[.bool false, .bool false, .int .u64 0, .bool false, .bool false, .int .u64 0] 32)
  simp only [World.size_alloc] at hn1 hn2
  have Hn0 := Lib.hid hn0
  have Hn1 := Lib.hid hn1
  have Hn2 := Lib.hid hn2
  clear hn0 hn1 hn2
  go_enter Try.func7, Try.ntmps7
  go_wp2
  go_region_with (go_at_call 11; refine (carouselref14_Hear.same_at _ _ _ _ _ _ _ _ _ _ HE.out).mono ?_; rintro e' w1 ⟨rfl, hb⟩; have hB1 := carouselref14_Hear.call_b (w := w) (by repeat (with_reducible first | exact Below.refl _ _ | apply below_alloc | apply below_drew1 | apply pw_below_drewN | refine carouselref14_Hear.set_b ?_ (by simp <;> omega) _)) hb; have hP1 := blk_below (g := w.heap.size) (o := .cells #[.bool s0, .bool e0, .int .u64 n0, .bool s1, .bool e1, .int .u64 n1] 32 (0, 0)) (by have hn_ := Hn0.out; (with_reducible repeat (first | exact hn_ | refine blk_drewN ?_ _ | refine blk_drew ?_ | refine blk_alloc ?_ _))) hb; have hM1 := blk_below (g := w.heap.size + 1) (o := .cells #[.int .u8 0, .bool true, .bool false, .bool ea, .int .u64 nd] 43 (0, 0)) (by have hn_ := Hn1.out; (with_reducible repeat (first | exact hn_ | refine blk_drewN ?_ _ | refine blk_drew ?_ | refine blk_alloc ?_ _))) hb; have hR1 := blk_below (g := w.heap.size + 1 + 1) (o := .cells #[.bool false, .bool false, .int .u64 0, .bool false, .bool false, .int .u64 0] 32 (0, 0)) (by have hn_ := Hn2.out; (with_reducible repeat (first | exact hn_ | refine blk_drewN ?_ _ | refine blk_drew ?_ | refine blk_alloc ?_ _))) hb; clear hb)
  all_goals
    have p0 : w1.cell? ⟨w.heap.size, 0, none⟩ = some (.bool s0) := (blk_cell hP1 0).trans rfl
    have p1 : w1.cell? ⟨w.heap.size, 1, none⟩ = some (.bool e0) := (blk_cell hP1 1).trans rfl
    have p2 : w1.cell? ⟨w.heap.size, 2, none⟩ = some (.int .u64 n0) := (blk_cell hP1 2).trans rfl
    have p3 : w1.cell? ⟨w.heap.size, 3, none⟩ = some (.bool s1) := (blk_cell hP1 3).trans rfl
    have p4 : w1.cell? ⟨w.heap.size, 4, none⟩ = some (.bool e1) := (blk_cell hP1 4).trans rfl
    have p5 : w1.cell? ⟨w.heap.size, 5, none⟩ = some (.int .u64 n1) := (blk_cell hP1 5).trans rfl
    have m0 : w1.cell? ⟨w.heap.size + 1, 0, none⟩ = some (.int .u8 0) := (blk_cell hM1 0).trans rfl
    have m1 : w1.cell? ⟨w.heap.size + 1, 1, none⟩ = some (.bool true) := (blk_cell hM1 1).trans rfl
    have m2 : w1.cell? ⟨w.heap.size + 1, 2, none⟩ = some (.bool false) := (blk_cell hM1 2).trans rfl
    have m3 : w1.cell? ⟨w.heap.size + 1, 3, none⟩ = some (.bool ea) := (blk_cell hM1 3).trans rfl
    have m4 : w1.cell? ⟨w.heap.size + 1, 4, none⟩ = some (.int .u64 nd) := (blk_cell hM1 4).trans rfl
    have f0 := blk_frozen hP1 0
    have f1 := blk_frozen hP1 1
    have f2 := blk_frozen hP1 2
    have f3 := blk_frozen hP1 3
    have f4 := blk_frozen hP1 4
    have f5 := blk_frozen hP1 5
    go_wp2
    refine carouselref14_Hear.wp_W (fun W2 hW2 => ?_)
    have hB2 : Below w.heap.size w W2 := by
      rw [hW2]
      repeat (with_reducible first | exact hB1 | apply below_alloc | apply below_drew1 | apply pw_below_drewN | refine carouselref14_Hear.set_b ?_ (by simp <;> omega) _)
    have hP2 : W2.heap[w.heap.size]? = some (.cells #[.bool true, .bool ea, .int .u64 nd, .bool s1, .bool e1, .int .u64 n1] 32 (0, 0)) := by
      rw [hW2]
      have hn_ := hP1
      (with_reducible repeat (first | exact hn_ | refine blk_drewN ?_ _ | refine blk_drew ?_ | refine blk_alloc ?_ _))
      with_reducible refine blk_put (cs := #[.bool true, .bool ea, .int .u64 n0, .bool s1, .bool e1, .int .u64 n1]) ?_ 2 _ rfl
      (with_reducible repeat (first | exact hn_ | refine blk_drewN ?_ _ | refine blk_drew ?_ | refine blk_alloc ?_ _))
      with_reducible refine blk_put (cs := #[.bool true, .bool e0, .int .u64 n0, .bool s1, .bool e1, .int .u64 n1]) ?_ 1 _ rfl
      (with_reducible repeat (first | exact hn_ | refine blk_drewN ?_ _ | refine blk_drew ?_ | refine blk_alloc ?_ _))
      with_reducible refine blk_put (cs := #[.bool s0, .bool e0, .int .u64 n0, .bool s1, .bool e1, .int .u64 n1]) ?_ 0 _ rfl
      (with_reducible repeat (first | exact hn_ | refine blk_drewN ?_ _ | refine blk_drew ?_ | refine blk_alloc ?_ _))
    have hM2 : W2.heap[w.heap.size + 1]? = some (.cells #[.int .u8 0, .bool true, .bool false, .bool ea, .int .u64 nd] 43 (0, 0)) := by
      rw [hW2]
      have hn_ := hM1
      (with_reducible repeat (first | exact hn_ | refine blk_drewN ?_ _ | refine blk_drew ?_ | refine blk_alloc ?_ _))
      with_reducible refine blk_far ?_ (by simp <;> omega) _
      (with_reducible repeat (first | exact hn_ | refine blk_drewN ?_ _ | refine blk_drew ?_ | refine blk_alloc ?_ _))
      with_reducible refine blk_far ?_ (by simp <;> omega) _
      (with_reducible repeat (first | exact hn_ | refine blk_drewN ?_ _ | refine blk_drew ?_ | refine blk_alloc ?_ _))
      with_reducible refine blk_far ?_ (by simp <;> omega) _
      (with_reducible repeat (first | exact hn_ | refine blk_drewN ?_ _ | refine blk_drew ?_ | refine blk_alloc ?_ _))
    have hR2 : W2.heap[w.heap.size + 1 + 1]? = some (.cells #[.bool false, .bool false, .int .u64 0, .bool false, .bool false, .int .u64 0] 32 (0, 0)) := by
      rw [hW2]
      have hn_ := hR1
      (with_reducible repeat (first | exact hn_ | refine blk_drewN ?_ _ | refine blk_drew ?_ | refine blk_alloc ?_ _))
      with_reducible refine blk_far ?_ (by simp <;> omega) _
      (with_reducible repeat (first | exact hn_ | refine blk_drewN ?_ _ | refine blk_drew ?_ | refine blk_alloc ?_ _))
      with_reducible refine blk_far ?_ (by simp <;> omega) _
      (with_reducible repeat (first | exact hn_ | refine blk_drewN ?_ _ | refine blk_drew ?_ | refine blk_alloc ?_ _))
      with_reducible refine blk_far ?_ (by simp <;> omega) _
      (with_reducible repeat (first | exact hn_ | refine blk_drewN ?_ _ | refine blk_drew ?_ | refine blk_alloc ?_ _))
    clear hW2 hB1 hP1 hM1 hR1 f0 f1 f2 f3 f4 f5 p0 p1 p2 p3 p4 p5 m0 m1 m2 m3 m4
    have p0 : W2.cell? ⟨w.heap.size, 0, none⟩ = some (.bool true) := (blk_cell hP2 0).trans rfl
    have p1 : W2.cell? ⟨w.heap.size, 1, none⟩ = some (.bool ea) := (blk_cell hP2 1).trans rfl
    have p2 : W2.cell? ⟨w.heap.size, 2, none⟩ = some (.int .u64 nd) := (blk_cell hP2 2).trans rfl
    have p3 : W2.cell? ⟨w.heap.size, 3, none⟩ = some (.bool s1) := (blk_cell hP2 3).trans rfl
    have p4 : W2.cell? ⟨w.heap.size, 4, none⟩ = some (.bool e1) := (blk_cell hP2 4).trans rfl
    have p5 : W2.cell? ⟨w.heap.size, 5, none⟩ = some (.int .u64 n1) := (blk_cell hP2 5).trans rfl
    have m0 : W2.cell? ⟨w.heap.size + 1, 0, none⟩ = some (.int .u8 0) := (blk_cell hM2 0).trans rfl
    have m1 : W2.cell? ⟨w.heap.size + 1, 1, none⟩ = some (.bool true) := (blk_cell hM2 1).trans rfl
    have m2 : W2.cell? ⟨w.heap.size + 1, 2, none⟩ = some (.bool false) := (blk_cell hM2 2).trans rfl
    have m3 : W2.cell? ⟨w.heap.size + 1, 3, none⟩ = some (.bool ea) := (blk_cell hM2 3).trans rfl
    have m4 : W2.cell? ⟨w.heap.size + 1, 4, none⟩ = some (.int .u64 nd) := (blk_cell hM2 4).trans rfl
    go_region_with (go_at_call 11; refine (carouselref14_Hear.same_at _ _ _ _ _ _ _ _ _ _ HF.out).mono ?_; rintro e' w3 ⟨rfl, hb⟩; have hB3 := carouselref14_Hear.call_b (w := w) (by repeat (with_reducible first | exact hB2 | apply below_alloc | apply below_drew1 | apply pw_below_drewN | refine carouselref14_Hear.set_b ?_ (by simp <;> omega) _)) hb; have hP3 := blk_below (g := w.heap.size) (o := .cells #[.bool true, .bool ea, .int .u64 nd, .bool s1, .bool e1, .int .u64 n1] 32 (0, 0)) (by have hn_ := hP2; (with_reducible repeat (first | exact hn_ | refine blk_drewN ?_ _ | refine blk_drew ?_ | refine blk_alloc ?_ _))) hb; have hM3 := blk_below (g := w.heap.size + 1) (o := .cells #[.int .u8 0, .bool true, .bool false, .bool ea, .int .u64 nd] 43 (0, 0)) (by have hn_ := hM2; (with_reducible repeat (first | exact hn_ | refine blk_drewN ?_ _ | refine blk_drew ?_ | refine blk_alloc ?_ _))) hb; have hR3 := blk_below (g := w.heap.size + 1 + 1) (o := .cells #[.bool false, .bool false, .int .u64 0, .bool false, .bool false, .int .u64 0] 32 (0, 0)) (by have hn_ := hR2; (with_reducible repeat (first | exact hn_ | refine blk_drewN ?_ _ | refine blk_drew ?_ | refine blk_alloc ?_ _))) hb; clear hb)
    all_goals
      clear p0 p1 p2 p3 p4 p5 m0 m1 m2 m3 m4
      have p0 : w3.cell? ⟨w.heap.size, 0, none⟩ = some (.bool true) := (blk_cell hP3 0).trans rfl
      have p1 : w3.cell? ⟨w.heap.size, 1, none⟩ = some (.bool ea) := (blk_cell hP3 1).trans rfl
      have p2 : w3.cell? ⟨w.heap.size, 2, none⟩ = some (.int .u64 nd) := (blk_cell hP3 2).trans rfl
      have p3 : w3.cell? ⟨w.heap.size, 3, none⟩ = some (.bool s1) := (blk_cell hP3 3).trans rfl
      have p4 : w3.cell? ⟨w.heap.size, 4, none⟩ = some (.bool e1) := (blk_cell hP3 4).trans rfl
      have p5 : w3.cell? ⟨w.heap.size, 5, none⟩ = some (.int .u64 n1) := (blk_cell hP3 5).trans rfl
      have r0 : w3.cell? ⟨w.heap.size + 1 + 1, 0, none⟩ = some (.bool false) := (blk_cell hR3 0).trans rfl
      have r1 : w3.cell? ⟨w.heap.size + 1 + 1, 1, none⟩ = some (.bool false) := (blk_cell hR3 1).trans rfl
      have r2 : w3.cell? ⟨w.heap.size + 1 + 1, 2, none⟩ = some (.int .u64 0) := (blk_cell hR3 2).trans rfl
      have r3 : w3.cell? ⟨w.heap.size + 1 + 1, 3, none⟩ = some (.bool false) := (blk_cell hR3 3).trans rfl
      have r4 : w3.cell? ⟨w.heap.size + 1 + 1, 4, none⟩ = some (.bool false) := (blk_cell hR3 4).trans rfl
      have r5 : w3.cell? ⟨w.heap.size + 1 + 1, 5, none⟩ = some (.int .u64 0) := (blk_cell hR3 5).trans rfl
      have f0 := blk_frozen hR3 0
      have f1 := blk_frozen hR3 1
      have f2 := blk_frozen hR3 2
      have f3 := blk_frozen hR3 3
      have f4 := blk_frozen hR3 4
      have f5 := blk_frozen hR3 5
      cases b
      all_goals
        go_wp2
        refine carouselref14_Hear.post_W (fun W5 hW5 => ?_)
        have hB5 : Below w.heap.size w W5 := by
          rw [hW5]
          repeat (with_reducible first | exact hB3 | apply below_alloc | apply below_drew1 | apply pw_below_drewN | refine carouselref14_Hear.set_b ?_ (by simp <;> omega) _)
        have hR5 : W5.heap[w.heap.size + 1 + 1]? = some (.cells #[.bool true, .bool ea, .int .u64 nd, .bool s1, .bool e1, .int .u64 n1] 32 (0, 0)) := by
          rw [hW5]
          have hn_ := hR3
          (with_reducible repeat (first | exact hn_ | refine blk_drewN ?_ _ | refine blk_drew ?_ | refine blk_alloc ?_ _))
          with_reducible refine blk_put (cs := #[.bool true, .bool ea, .int .u64 nd, .bool s1, .bool e1, .int .u64 0]) ?_ 5 _ rfl
          (with_reducible repeat (first | exact hn_ | refine blk_drewN ?_ _ | refine blk_drew ?_ | refine blk_alloc ?_ _))
          with_reducible refine blk_put (cs := #[.bool true, .bool ea, .int .u64 nd, .bool s1, .bool false, .int .u64 0]) ?_ 4 _ rfl
          (with_reducible repeat (first | exact hn_ | refine blk_drewN ?_ _ | refine blk_drew ?_ | refine blk_alloc ?_ _))
          with_reducible refine blk_put (cs := #[.bool true, .bool ea, .int .u64 nd, .bool false, .bool false, .int .u64 0]) ?_ 3 _ rfl
          (with_reducible repeat (first | exact hn_ | refine blk_drewN ?_ _ | refine blk_drew ?_ | refine blk_alloc ?_ _))
          with_reducible refine blk_put (cs := #[.bool true, .bool ea, .int .u64 0, .bool false, .bool false, .int .u64 0]) ?_ 2 _ rfl
          (with_reducible repeat (first | exact hn_ | refine blk_drewN ?_ _ | refine blk_drew ?_ | refine blk_alloc ?_ _))
          with_reducible refine blk_put (cs := #[.bool true, .bool false, .int .u64 0, .bool false, .bool false, .int .u64 0]) ?_ 1 _ rfl
          (with_reducible repeat (first | exact hn_ | refine blk_drewN ?_ _ | refine blk_drew ?_ | refine blk_alloc ?_ _))
          with_reducible refine blk_put (cs := #[.bool false, .bool false, .int .u64 0, .bool false, .bool false, .int .u64 0]) ?_ 0 _ rfl
          (with_reducible repeat (first | exact hn_ | refine blk_drewN ?_ _ | refine blk_drew ?_ | refine blk_alloc ?_ _))
        have z0 : W5.cell? ⟨w.heap.size + 1 + 1, 0, none⟩ = some (.bool true) := (blk_cell hR5 0).trans rfl
        have z1 : W5.cell? ⟨w.heap.size + 1 + 1, 1, none⟩ = some (.bool ea) := (blk_cell hR5 1).trans rfl
        have z2 : W5.cell? ⟨w.heap.size + 1 + 1, 2, none⟩ = some (.int .u64 nd) := (blk_cell hR5 2).trans rfl
        have z3 : W5.cell? ⟨w.heap.size + 1 + 1, 3, none⟩ = some (.bool s1) := (blk_cell hR5 3).trans rfl
        have z4 : W5.cell? ⟨w.heap.size + 1 + 1, 4, none⟩ = some (.bool e1) := (blk_cell hR5 4).trans rfl
        have z5 : W5.cell? ⟨w.heap.size + 1 + 1, 5, none⟩ = some (.int .u64 n1) := (blk_cell hR5 5).trans rfl
        first | exact bodyPost_ret (v := .tuple #[.agg #[.bool true, .bool ea, .int .u64 nd, .bool s1, .bool e1, .int .u64 n1], .bool (true)]) (by simp [results, Try.results7, go_sem, z0, z1, z2, z3, z4, z5]) rfl ⟨rfl, hB5⟩ | exact bodyPost_ret (v := .tuple #[.agg #[.bool true, .bool ea, .int .u64 nd, .bool s1, .bool e1, .int .u64 n1], .bool (false)]) (by simp [results, Try.results7, go_sem, z0, z1, z2, z3, z4, z5]) rfl ⟨rfl, hB5⟩
set_option maxHeartbeats 8000000 in
set_option maxRecDepth 100000 in
theorem carouselref14_Hear.w1 (s0 e0 : Bool) (n0 : Int) (s1 e1 : Bool) (n1 : Int) (kp ea : Bool) (nd : Int) (w : World) :
    Calls Try.prog 7 #[.agg #[.bool s0, .bool e0, .int .u64 n0, .bool s1, .bool e1, .int .u64 n1], .int .i64 1, .agg #[.int .u8 0, .bool false, .bool kp, .bool ea, .int .u64 nd]] w fun e w' =>
      e = .returned (.tuple #[.agg #[.bool s0, .bool e0, .int .u64 n0, .bool false, .bool false, .int .u64 0], .bool (false)]) ∧ Below w.heap.size w w' := by
  have huA := Try.underlying32
  go_enter Try.func7, Try.ntmps7
  go_wp2
  exact bodyPost_ret (v := .tuple #[.agg #[.bool s0, .bool e0, .int .u64 n0, .bool false, .bool false, .int .u64 0], .bool (false)]) (by simp [results, Try.results7, go_sem]) rfl ⟨rfl, by repeat (with_reducible first | exact Below.refl _ _ | apply below_alloc | apply below_drew1 | apply pw_below_drewN | refine carouselref14_Hear.set_b ?_ (by simp <;> omega) _)⟩
set_option maxHeartbeats 8000000 in
set_option maxRecDepth 100000 in
theorem carouselref14_Hear.s1a (s0 e0 : Bool) (n0 : Int) (s1 e1 : Bool) (n1 : Int) (rq : Int) (bl kp ea : Bool) (nd : Int) (w : World) (hW : (rq == 0) = false) (hE : (s1 && (e1 == ea && n1 == nd)) = true) :
    Calls Try.prog 7 #[.agg #[.bool s0, .bool e0, .int .u64 n0, .bool s1, .bool e1, .int .u64 n1], .int .i64 1, .agg #[.int .u8 rq, .bool bl, .bool kp, .bool ea, .int .u64 nd]] w fun e w' =>
      e = .returned (.tuple #[.agg #[.bool s0, .bool e0, .int .u64 n0, .bool s1, .bool e1, .int .u64 n1], .bool (false)]) ∧ Below w.heap.size w w' := by
  have huA := Try.underlying32
  have HE := Lib.hid hE
  clear hE
  have hn0 := blk_new w (.cells #[.bool s0, .bool e0, .int .u64 n0, .bool s1, .bool e1, .int .u64 n1] 32)
  have hn1 := blk_new (w.alloc (.cells #[.bool s0, .bool e0, .int .u64 n0, .bool s1, .bool e1, .int .u64 n1] 32)) (.cells #[.int .u8 rq, .bool bl, .bool kp, .bool ea, .int .u64 nd] 43)
  have hn2 := blk_new ((w.alloc (.cells #[.bool s0, .bool e0, .int .u64 n0, .bool s1, .bool e1, .int .u64 n1] 32)).alloc (.cells #[.int .u8 rq, .bool bl, .bool kp, .bool ea, .int .u64 nd] 43)) (.cells #[.bool false, .bool false, .int .u64 0, .bool false, .bool false, .int .u64 0] 32)
  simp only [World.size_alloc] at hn1 hn2
  have Hn0 := Lib.hid hn0
  have Hn1 := Lib.hid hn1
  have Hn2 := Lib.hid hn2
  clear hn0 hn1 hn2
  go_enter Try.func7, Try.ntmps7
  go_wp2
  go_region_with (go_at_call 11; refine (carouselref14_Hear.same_at _ _ _ _ _ _ _ _ _ _ HE.out).mono ?_; rintro e' w1 ⟨rfl, hb⟩; have hB1 := carouselref14_Hear.call_b (w := w) (by repeat (with_reducible first | exact Below.refl _ _ | apply below_alloc | apply below_drew1 | apply pw_below_drewN | refine carouselref14_Hear.set_b ?_ (by simp <;> omega) _)) hb; have hP1 := blk_below (g := w.heap.size) (o := .cells #[.bool s0, .bool e0, .int .u64 n0, .bool s1, .bool e1, .int .u64 n1] 32 (0, 0)) (by have hn_ := Hn0.out; (with_reducible repeat (first | exact hn_ | refine blk_drewN ?_ _ | refine blk_drew ?_ | refine blk_alloc ?_ _))) hb; have hM1 := blk_below (g := w.heap.size + 1) (o := .cells #[.int .u8 rq, .bool bl, .bool kp, .bool ea, .int .u64 nd] 43 (0, 0)) (by have hn_ := Hn1.out; (with_reducible repeat (first | exact hn_ | refine blk_drewN ?_ _ | refine blk_drew ?_ | refine blk_alloc ?_ _))) hb; have hR1 := blk_below (g := w.heap.size + 1 + 1) (o := .cells #[.bool false, .bool false, .int .u64 0, .bool false, .bool false, .int .u64 0] 32 (0, 0)) (by have hn_ := Hn2.out; (with_reducible repeat (first | exact hn_ | refine blk_drewN ?_ _ | refine blk_drew ?_ | refine blk_alloc ?_ _))) hb; clear hb)
  all_goals
    have p0 : w1.cell? ⟨w.heap.size, 0, none⟩ = some (.bool s0) := (blk_cell hP1 0).trans rfl
    have p1 : w1.cell? ⟨w.heap.size, 1, none⟩ = some (.bool e0) := (blk_cell hP1 1).trans rfl
    have p2 : w1.cell? ⟨w.heap.size, 2, none⟩ = some (.int .u64 n0) := (blk_cell hP1 2).trans rfl
    have p3 : w1.cell? ⟨w.heap.size, 3, none⟩ = some (.bool s1) := (blk_cell hP1 3).trans rfl
    have p4 : w1.cell? ⟨w.heap.size, 4, none⟩ = some (.bool e1) := (blk_cell hP1 4).trans rfl
    have p5 : w1.cell? ⟨w.heap.size, 5, none⟩ = some (.int .u64 n1) := (blk_cell hP1 5).trans rfl
    have r0 : w1.cell? ⟨w.heap.size + 1 + 1, 0, none⟩ = some (.bool false) := (blk_cell hR1 0).trans rfl
    have r1 : w1.cell? ⟨w.heap.size + 1 + 1, 1, none⟩ = some (.bool false) := (blk_cell hR1 1).trans rfl
    have r2 : w1.cell? ⟨w.heap.size + 1 + 1, 2, none⟩ = some (.int .u64 0) := (blk_cell hR1 2).trans rfl
    have r3 : w1.cell? ⟨w.heap.size + 1 + 1, 3, none⟩ = some (.bool false) := (blk_cell hR1 3).trans rfl
    have r4 : w1.cell? ⟨w.heap.size + 1 + 1, 4, none⟩ = some (.bool false) := (blk_cell hR1 4).trans rfl
    have r5 : w1.cell? ⟨w.heap.size + 1 + 1, 5, none⟩ = some (.int .u64 0) := (blk_cell hR1 5).trans rfl
    have f0 := blk_frozen hR1 0
    have f1 := blk_frozen hR1 1
    have f2 := blk_frozen hR1 2
    have f3 := blk_frozen hR1 3
    have f4 := blk_frozen hR1 4
    have f5 := blk_frozen hR1 5
    go_wp2
    refine carouselref14_Hear.post_W (fun W5 hW5 => ?_)
    have hB5 : Below w.heap.size w W5 := by
      rw [hW5]
      repeat (with_reducible first | exact hB1 | apply below_alloc | apply below_drew1 | apply pw_below_drewN | refine carouselref14_Hear.set_b ?_ (by simp <;> omega) _)
    have hR5 : W5.heap[w.heap.size + 1 + 1]? = some (.cells #[.bool s0, .bool e0, .int .u64 n0, .bool s1, .bool e1, .int .u64 n1] 32 (0, 0)) := by
      rw [hW5]
      have hn_ := hR1
      (with_reducible repeat (first | exact hn_ | refine blk_drewN ?_ _ | refine blk_drew ?_ | refine blk_alloc ?_ _))
      with_reducible refine blk_put (cs := #[.bool s0, .bool e0, .int .u64 n0, .bool s1, .bool e1, .int .u64 0]) ?_ 5 _ rfl
      (with_reducible repeat (first | exact hn_ | refine blk_drewN ?_ _ | refine blk_drew ?_ | refine blk_alloc ?_ _))
      with_reducible refine blk_put (cs := #[.bool s0, .bool e0, .int .u64 n0, .bool s1, .bool false, .int .u64 0]) ?_ 4 _ rfl
      (with_reducible repeat (first | exact hn_ | refine blk_drewN ?_ _ | refine blk_drew ?_ | refine blk_alloc ?_ _))
      with_reducible refine blk_put (cs := #[.bool s0, .bool e0, .int .u64 n0, .bool false, .bool false, .int .u64 0]) ?_ 3 _ rfl
      (with_reducible repeat (first | exact hn_ | refine blk_drewN ?_ _ | refine blk_drew ?_ | refine blk_alloc ?_ _))
      with_reducible refine blk_put (cs := #[.bool s0, .bool e0, .int .u64 0, .bool false, .bool false, .int .u64 0]) ?_ 2 _ rfl
      (with_reducible repeat (first | exact hn_ | refine blk_drewN ?_ _ | refine blk_drew ?_ | refine blk_alloc ?_ _))
      with_reducible refine blk_put (cs := #[.bool s0, .bool false, .int .u64 0, .bool false, .bool false, .int .u64 0]) ?_ 1 _ rfl
      (with_reducible repeat (first | exact hn_ | refine blk_drewN ?_ _ | refine blk_drew ?_ | refine blk_alloc ?_ _))
      with_reducible refine blk_put (cs := #[.bool false, .bool false, .int .u64 0, .bool false, .bool false, .int .u64 0]) ?_ 0 _ rfl
      (with_reducible repeat (first | exact hn_ | refine blk_drewN ?_ _ | refine blk_drew ?_ | refine blk_alloc ?_ _))
    have z0 : W5.cell? ⟨w.heap.size + 1 + 1, 0, none⟩ = some (.bool s0) := (blk_cell hR5 0).trans rfl
    have z1 : W5.cell? ⟨w.heap.size + 1 + 1, 1, none⟩ = some (.bool e0) := (blk_cell hR5 1).trans rfl
    have z2 : W5.cell? ⟨w.heap.size + 1 + 1, 2, none⟩ = some (.int .u64 n0) := (blk_cell hR5 2).trans rfl
    have z3 : W5.cell? ⟨w.heap.size + 1 + 1, 3, none⟩ = some (.bool s1) := (blk_cell hR5 3).trans rfl
    have z4 : W5.cell? ⟨w.heap.size + 1 + 1, 4, none⟩ = some (.bool e1) := (blk_cell hR5 4).trans rfl
    have z5 : W5.cell? ⟨w.heap.size + 1 + 1, 5, none⟩ = some (.int .u64 n1) := (blk_cell hR5 5).trans rfl
    exact bodyPost_ret (v := .tuple #[.agg #[.bool s0, .bool e0, .int .u64 n0, .bool s1, .bool e1, .int .u64 n1], .bool (false)]) (by simp [results, Try.results7, go_sem, z0, z1, z2, z3, z4, z5]) rfl ⟨rfl, hB5⟩
set_option maxHeartbeats 8000000 in
set_option maxRecDepth 100000 in
theorem carouselref14_Hear.d1at (s0 e0 : Bool) (n0 : Int) (s1 e1 : Bool) (n1 : Int) (rq : Int) (bl ea : Bool) (nd : Int) (w : World) (hW : (rq == 0) = false) (hE : (s1 && (e1 == ea && n1 == nd)) = false) :
    Calls Try.prog 7 #[.agg #[.bool s0, .bool e0, .int .u64 n0, .bool s1, .bool e1, .int .u64 n1], .int .i64 1, .agg #[.int .u8 rq, .bool bl, .bool true, .bool ea, .int .u64 nd]] w fun e w' =>
      e = .returned (.tuple #[.agg #[.bool s0, .bool e0, .int .u64 n0, .bool true, .bool ea, .int .u64 nd], .bool (false)]) ∧ Below w.heap.size w w' := by
  have huA := Try.underlying32
  have HE := Lib.hid hE
  clear hE
  have hn0 := blk_new w (.cells #[.bool s0, .bool e0, .int .u64 n0, .bool s1, .bool e1, .int .u64 n1] 32)
  have hn1 := blk_new (w.alloc (.cells #[.bool s0, .bool e0, .int .u64 n0, .bool s1, .bool e1, .int .u64 n1] 32)) (.cells #[.int .u8 rq, .bool bl, .bool true, .bool ea, .int .u64 nd] 43)
  have hn2 := blk_new ((w.alloc (.cells #[.bool s0, .bool e0, .int .u64 n0, .bool s1, .bool e1, .int .u64 n1] 32)).alloc (.cells #[.int .u8 rq, .bool bl, .bool true, .bool ea, .int .u64 nd] 43)) (.cells #[.bool false, .bool false, .int .u64 0, .bool false, .bool false, .int .u64 0] 32)
  simp only [World.size_alloc] at hn1 hn2
  have Hn0 := Lib.hid hn0
  have Hn1 := Lib.hid hn1
  have Hn2 := Lib.hid hn2
  clear hn0 hn1 hn2
  go_enter Try.func7, Try.ntmps7
  go_wp2
  go_region_with (go_at_call 11; refine (carouselref14_Hear.same_at _ _ _ _ _ _ _ _ _ _ HE.out).mono ?_; rintro e' w1 ⟨rfl, hb⟩; have hB1 := carouselref14_Hear.call_b (w := w) (by repeat (with_reducible first | exact Below.refl _ _ | apply below_alloc | apply below_drew1 | apply pw_below_drewN | refine carouselref14_Hear.set_b ?_ (by simp <;> omega) _)) hb; have hP1 := blk_below (g := w.heap.size) (o := .cells #[.bool s0, .bool e0, .int .u64 n0, .bool s1, .bool e1, .int .u64 n1] 32 (0, 0)) (by have hn_ := Hn0.out; (with_reducible repeat (first | exact hn_ | refine blk_drewN ?_ _ | refine blk_drew ?_ | refine blk_alloc ?_ _))) hb; have hM1 := blk_below (g := w.heap.size + 1) (o := .cells #[.int .u8 rq, .bool bl, .bool true, .bool ea, .int .u64 nd] 43 (0, 0)) (by have hn_ := Hn1.out; (with_reducible repeat (first | exact hn_ | refine blk_drewN ?_ _ | refine blk_drew ?_ | refine blk_alloc ?_ _))) hb; have hR1 := blk_below (g := w.heap.size + 1 + 1) (o := .cells #[.bool false, .bool false, .int .u64 0, .bool false, .bool false, .int .u64 0] 32 (0, 0)) (by have hn_ := Hn2.out; (with_reducible repeat (first | exact hn_ | refine blk_drewN ?_ _ | refine blk_drew ?_ | refine blk_alloc ?_ _))) hb; clear hb)
  all_goals
    have p0 : w1.cell? ⟨w.heap.size, 0, none⟩ = some (.bool s0) := (blk_cell hP1 0).trans rfl
    have p1 : w1.cell? ⟨w.heap.size, 1, none⟩ = some (.bool e0) := (blk_cell hP1 1).trans rfl
    have p2 : w1.cell? ⟨w.heap.size, 2, none⟩ = some (.int .u64 n0) := (blk_cell hP1 2).trans rfl
    have p3 : w1.cell? ⟨w.heap.size, 3, none⟩ = some (.bool s1) := (blk_cell hP1 3).trans rfl
    have p4 : w1.cell? ⟨w.heap.size, 4, none⟩ = some (.bool e1) := (blk_cell hP1 4).trans rfl
    have p5 : w1.cell? ⟨w.heap.size, 5, none⟩ = some (.int .u64 n1) := (blk_cell hP1 5).trans rfl
    have m0 : w1.cell? ⟨w.heap.size + 1, 0, none⟩ = some (.int .u8 rq) := (blk_cell hM1 0).trans rfl
    have m1 : w1.cell? ⟨w.heap.size + 1, 1, none⟩ = some (.bool bl) := (blk_cell hM1 1).trans rfl
    have m2 : w1.cell? ⟨w.heap.size + 1, 2, none⟩ = some (.bool true) := (blk_cell hM1 2).trans rfl
    have m3 : w1.cell? ⟨w.heap.size + 1, 3, none⟩ = some (.bool ea) := (blk_cell hM1 3).trans rfl
    have m4 : w1.cell? ⟨w.heap.size + 1, 4, none⟩ = some (.int .u64 nd) := (blk_cell hM1 4).trans rfl
    have f0 := blk_frozen hP1 0
    have f1 := blk_frozen hP1 1
    have f2 := blk_frozen hP1 2
    have f3 := blk_frozen hP1 3
    have f4 := blk_frozen hP1 4
    have f5 := blk_frozen hP1 5
    go_wp2
    refine carouselref14_Hear.wp_W (fun W2 hW2 => ?_)
    have hB2 : Below w.heap.size w W2 := by
      rw [hW2]
      repeat (with_reducible first | exact hB1 | apply below_alloc | apply below_drew1 | apply pw_below_drewN | refine carouselref14_Hear.set_b ?_ (by simp <;> omega) _)
    have hP2 : W2.heap[w.heap.size]? = some (.cells #[.bool s0, .bool e0, .int .u64 n0, .bool true, .bool ea, .int .u64 nd] 32 (0, 0)) := by
      rw [hW2]
      have hn_ := hP1
      (with_reducible repeat (first | exact hn_ | refine blk_drewN ?_ _ | refine blk_drew ?_ | refine blk_alloc ?_ _))
      with_reducible refine blk_put (cs := #[.bool s0, .bool e0, .int .u64 n0, .bool true, .bool ea, .int .u64 n1]) ?_ 5 _ rfl
      (with_reducible repeat (first | exact hn_ | refine blk_drewN ?_ _ | refine blk_drew ?_ | refine blk_alloc ?_ _))
      with_reducible refine blk_put (cs := #[.bool s0, .bool e0, .int .u64 n0, .bool true, .bool e1, .int .u64 n1]) ?_ 4 _ rfl
      (with_reducible repeat (first | exact hn_ | refine blk_drewN ?_ _ | refine blk_drew ?_ | refine blk_alloc ?_ _))
      with_reducible refine blk_put (cs := #[.bool s0, .bool e0, .int .u64 n0, .bool s1, .bool e1, .int .u64 n1]) ?_ 3 _ rfl
      (with_reducible repeat (first | exact hn_ | refine blk_drewN ?_ _ | refine blk_drew ?_ | refine blk_alloc ?_ _))
    have hM2 : W2.heap[w.heap.size + 1]? = some (.cells #[.int .u8 rq, .bool bl, .bool true, .bool ea, .int .u64 nd] 43 (0, 0)) := by
      rw [hW2]
      have hn_ := hM1
      (with_reducible repeat (first | exact hn_ | refine blk_drewN ?_ _ | refine blk_drew ?_ | refine blk_alloc ?_ _))
      with_reducible refine blk_far ?_ (by simp <;> omega) _
      (with_reducible repeat (first | exact hn_ | refine blk_drewN ?_ _ | refine blk_drew ?_ | refine blk_alloc ?_ _))
      with_reducible refine blk_far ?_ (by simp <;> omega) _
      (with_reducible repeat (first | exact hn_ | refine blk_drewN ?_ _ | refine blk_drew ?_ | refine blk_alloc ?_ _))
      with_reducible refine blk_far ?_ (by simp <;> omega) _
      (with_reducible repeat (first | exact hn_ | refine blk_drewN ?_ _ | refine blk_drew ?_ | refine blk_alloc ?_ _))
    have hR2 : W2.heap[w.heap.size + 1 + 1]? = some (.cells #[.bool false, .bool false, .int .u64 0, .bool false, .bool false, .int .u64 0] 32 (0, 0)) := by
      rw [hW2]
      have hn_ := hR1
      (with_reducible repeat (first | exact hn_ | refine blk_drewN ?_ _ | refine blk_drew ?_ | refine blk_alloc ?_ _))
      with_reducible refine blk_far ?_ (by simp <;> omega) _
      (with_reducible repeat (first | exact hn_ | refine blk_drewN ?_ _ | refine blk_drew ?_ | refine blk_alloc ?_ _))
      with_reducible refine blk_far ?_ (by simp <;> omega) _
      (with_reducible repeat (first | exact hn_ | refine blk_drewN ?_ _ | refine blk_drew ?_ | refine blk_alloc ?_ _))
      with_reducible refine blk_far ?_ (by simp <;> omega) _
      (with_reducible repeat (first | exact hn_ | refine blk_drewN ?_ _ | refine blk_drew ?_ | refine blk_alloc ?_ _))
    clear hW2 hB1 hP1 hM1 hR1 f0 f1 f2 f3 f4 f5 p0 p1 p2 p3 p4 p5 m0 m1 m2 m3 m4
    have p0 : W2.cell? ⟨w.heap.size, 0, none⟩ = some (.bool s0) := (blk_cell hP2 0).trans rfl
    have p1 : W2.cell? ⟨w.heap.size, 1, none⟩ = some (.bool e0) := (blk_cell hP2 1).trans rfl
    have p2 : W2.cell? ⟨w.heap.size, 2, none⟩ = some (.int .u64 n0) := (blk_cell hP2 2).trans rfl
    have p3 : W2.cell? ⟨w.heap.size, 3, none⟩ = some (.bool true) := (blk_cell hP2 3).trans rfl
    have p4 : W2.cell? ⟨w.heap.size, 4, none⟩ = some (.bool ea) := (blk_cell hP2 4).trans rfl
    have p5 : W2.cell? ⟨w.heap.size, 5, none⟩ = some (.int .u64 nd) := (blk_cell hP2 5).trans rfl
    have m0 : W2.cell? ⟨w.heap.size + 1, 0, none⟩ = some (.int .u8 rq) := (blk_cell hM2 0).trans rfl
    have m1 : W2.cell? ⟨w.heap.size + 1, 1, none⟩ = some (.bool bl) := (blk_cell hM2 1).trans rfl
    have m2 : W2.cell? ⟨w.heap.size + 1, 2, none⟩ = some (.bool true) := (blk_cell hM2 2).trans rfl
    have m3 : W2.cell? ⟨w.heap.size + 1, 3, none⟩ = some (.bool ea) := (blk_cell hM2 3).trans rfl
    have m4 : W2.cell? ⟨w.heap.size + 1, 4, none⟩ = some (.int .u64 nd) := (blk_cell hM2 4).trans rfl
    have r0 : W2.cell? ⟨w.heap.size + 1 + 1, 0, none⟩ = some (.bool false) := (blk_cell hR2 0).trans rfl
    have r1 : W2.cell? ⟨w.heap.size + 1 + 1, 1, none⟩ = some (.bool false) := (blk_cell hR2 1).trans rfl
    have r2 : W2.cell? ⟨w.heap.size + 1 + 1, 2, none⟩ = some (.int .u64 0) := (blk_cell hR2 2).trans rfl
    have r3 : W2.cell? ⟨w.heap.size + 1 + 1, 3, none⟩ = some (.bool false) := (blk_cell hR2 3).trans rfl
    have r4 : W2.cell? ⟨w.heap.size + 1 + 1, 4, none⟩ = some (.bool false) := (blk_cell hR2 4).trans rfl
    have r5 : W2.cell? ⟨w.heap.size + 1 + 1, 5, none⟩ = some (.int .u64 0) := (blk_cell hR2 5).trans rfl
    have f0 := blk_frozen hR2 0
    have f1 := blk_frozen hR2 1
    have f2 := blk_frozen hR2 2
    have f3 := blk_frozen hR2 3
    have f4 := blk_frozen hR2 4
    have f5 := blk_frozen hR2 5
    go_quiet (fail)
    all_goals go_wp2
    all_goals
      refine carouselref14_Hear.post_W (fun W5 hW5 => ?_)
      have hB5 : Below w.heap.size w W5 := by
        rw [hW5]
        repeat (with_reducible first | exact hB2 | apply below_alloc | apply below_drew1 | apply pw_below_drewN | refine carouselref14_Hear.set_b ?_ (by simp <;> omega) _)
      have hR5 : W5.heap[w.heap.size + 1 + 1]? = some (.cells #[.bool s0, .bool e0, .int .u64 n0, .bool true, .bool ea, .int .u64 nd] 32 (0, 0)) := by
        rw [hW5]
        have hn_ := hR2
        (with_reducible repeat (first | exact hn_ | refine blk_drewN ?_ _ | refine blk_drew ?_ | refine blk_alloc ?_ _))
        with_reducible refine blk_put (cs := #[.bool s0, .bool e0, .int .u64 n0, .bool true, .bool ea, .int .u64 0]) ?_ 5 _ rfl
        (with_reducible repeat (first | exact hn_ | refine blk_drewN ?_ _ | refine blk_drew ?_ | refine blk_alloc ?_ _))
        with_reducible refine blk_put (cs := #[.bool s0, .bool e0, .int .u64 n0, .bool true, .bool false, .int .u64 0]) ?_ 4 _ rfl
        (with_reducible repeat (first | exact hn_ | refine blk_drewN ?_ _ | refine blk_drew ?_ | refine blk_alloc ?_ _))
        with_reducible refine blk_put (cs := #[.bool s0, .bool e0, .int .u64 n0, .bool false, .bool false, .int .u64 0]) ?_ 3 _ rfl
        (with_reducible repeat (first | exact hn_ | refine blk_drewN ?_ _ | refine blk_drew ?_ | refine blk_alloc ?_ _))
        with_reducible refine blk_put (cs := #[.bool s0, .bool e0, .int .u64 0, .bool false, .bool false, .int .u64 0]) ?_ 2 _ rfl
        (with_reducible repeat (first | exact hn_ | refine blk_drewN ?_ _ | refine blk_drew ?_ | refine blk_alloc ?_ _))
        with_reducible refine blk_put (cs := #[.bool s0, .bool false, .int .u64 0, .bool false, .bool false, .int .u64 0]) ?_ 1 _ rfl
        (with_reducible repeat (first | exact hn_ | refine blk_drewN ?_ _ | refine blk_drew ?_ | refine blk_alloc ?_ _))
        with_reducible refine blk_put (cs := #[.bool false, .bool false, .int .u64 0, .bool false, .bool false, .int .u64 0]) ?_ 0 _ rfl
        (with_reducible repeat (first | exact hn_ | refine blk_drewN ?_ _ | refine blk_drew ?_ | refine blk_alloc ?_ _))
      have z0 : W5.cell? ⟨w.heap.size + 1 + 1, 0, none⟩ = some (.bool s0) := (blk_cell hR5 0).trans rfl
      have z1 : W5.cell? ⟨w.heap.size + 1 + 1, 1, none⟩ = some (.bool e0) := (blk_cell hR5 1).trans rfl
      have z2 : W5.cell? ⟨w.heap.size + 1 + 1, 2, none⟩ = some (.int .u64 n0) := (blk_cell hR5 2).trans rfl
      have z3 : W5.cell? ⟨w.heap.size + 1 + 1, 3, none⟩ = some (.bool true) := (blk_cell hR5 3).trans rfl
      have z4 : W5.cell? ⟨w.heap.size + 1 + 1, 4, none⟩ = some (.bool ea) := (blk_cell hR5 4).trans rfl
      have z5 : W5.cell? ⟨w.heap.size + 1 + 1, 5, none⟩ = some (.int .u64 nd) := (blk_cell hR5 5).trans rfl
      exact bodyPost_ret (v := .tuple #[.agg #[.bool s0, .bool e0, .int .u64 n0, .bool true, .bool ea, .int .u64 nd], .bool (false)]) (by simp [results, Try.results7, go_sem, z0, z1, z2, z3, z4, z5]) rfl ⟨rfl, hB5⟩
set_option maxHeartbeats 8000000 in
set_option maxRecDepth 100000 in
theorem carouselref14_Hear.d1af (s0 e0 : Bool) (n0 : Int) (s1 e1 : Bool) (n1 : Int) (rq : Int) (bl ea : Bool) (nd : Int) (b : Bool) (w : World) (hW : (rq == 0) = false) (hE : (s1 && (e1 == ea && n1 == nd)) = false) (hF : (s0 && (e0 == ea && n0 == nd)) = b) :
    Calls Try.prog 7 #[.agg #[.bool s0, .bool e0, .int .u64 n0, .bool s1, .bool e1, .int .u64 n1], .int .i64 1, .agg #[.int .u8 rq, .bool bl, .bool false, .bool ea, .int .u64 nd]] w fun e w' =>
      e = .returned (.tuple #[.agg #[.bool s0, .bool e0, .int .u64 n0, .bool true, .bool ea, .int .u64 nd], .bool (!b)]) ∧ Below w.heap.size w w' := by
  have huA := Try.underlying32
  have HE := Lib.hid hE
  have HF := Lib.hid hF
  clear hF
  clear hE
  have hn0 := blk_new w (.cells #[.bool s0, .bool e0, .int .u64 n0, .bool s1, .bool e1, .int .u64 n1] 32)
  have hn1 := blk_new (w.alloc (.cells #[.bool s0, .bool e0, .int .u64 n0, .bool s1, .bool e1, .int .u64 n1] 32)) (.cells #[.int .u8 rq, .bool bl, .bool false, .bool ea, .int .u64 nd] 43)
  have hn2 := blk_new ((w.alloc (.cells #[.bool s0, .bool e0, .int .u64 n0, .bool s1, .bool e1, .int .u64 n1] 32)).alloc (.cells #[.int .u8 rq, .bool bl, .bool false, .bool ea, .int .u64 nd] 43)) (.cells #[.bool false, .bool false, .int .u64 0, .bool false, .bool false, .int .u64 0] 32)
  simp only [World.size_alloc] at hn1 hn2
  have Hn0 := Lib.hid hn0
  have Hn1 := Lib.hid hn1
  have Hn2 := Lib.hid hn2
  clear hn0 hn1 hn2
  go_enter Try.func7, Try.ntmps7
  go_wp2
  go_region_with (go_at_call 11; refine (carouselref14_Hear.same_at _ _ _ _ _ _ _ _ _ _ HE.out).mono ?_; rintro e' w1 ⟨rfl, hb⟩; have hB1 := carouselref14_Hear.call_b (w := w) (by repeat (with_reducible first | exact Below.refl _ _ | apply below_alloc | apply below_drew1 | apply pw_below_drewN | refine carouselref14_Hear.set_b ?_ (by simp <;> omega) _)) hb; have hP1 := blk_below (g := w.heap.size) (o := .cells #[.bool s0, .bool e0, .int .u64 n0, .bool s1, .bool e1, .int .u64 n1] 32 (0, 0)) (by have hn_ := Hn0.out; (with_reducible repeat (first | exact hn_ | refine blk_drewN ?_ _ | refine blk_drew ?_ | refine blk_alloc ?_ _))) hb; have hM1 := blk_below (g := w.heap.size + 1) (o := .cells #[.int .u8 rq, .bool bl, .bool false, .bool ea, .int .u64 nd] 43 (0, 0)) (by have hn_ := Hn1.out; (with_reducible repeat (first | exact hn_ | refine blk_drewN ?_ _ | refine blk_drew ?_ | refine blk_alloc ?_ _))) hb; have hR1 := blk_below (g := w.heap.size + 1 + 1) (o := .cells #[.bool false, .bool false, .int .u64 0, .bool false, .bool false, .int .u64 0] 32 (0, 0)) (by have hn_ := Hn2.out; (with_reducible repeat (first | exact hn_ | refine blk_drewN ?_ _ | refine blk_drew ?_ | refine blk_alloc ?_ _))) hb; clear hb)
  all_goals
    have p0 : w1.cell? ⟨w.heap.size, 0, none⟩ = some (.bool s0) := (blk_cell hP1 0).trans rfl
    have p1 : w1.cell? ⟨w.heap.size, 1, none⟩ = some (.bool e0) := (blk_cell hP1 1).trans rfl
    have p2 : w1.cell? ⟨w.heap.size, 2, none⟩ = some (.int .u64 n0) := (blk_cell hP1 2).trans rfl
    have p3 : w1.cell? ⟨w.heap.size, 3, none⟩ = some (.bool s1) := (blk_cell hP1 3).trans rfl
    have p4 : w1.cell? ⟨w.heap.size, 4, none⟩ = some (.bool e1) := (blk_cell hP1 4).trans rfl
    have p5 : w1.cell? ⟨w.heap.size, 5, none⟩ = some (.int .u64 n1) := (blk_cell hP1 5).trans rfl
    have m0 : w1.cell? ⟨w.heap.size + 1, 0, none⟩ = some (.int .u8 rq) := (blk_cell hM1 0).trans rfl
    have m1 : w1.cell? ⟨w.heap.size + 1, 1, none⟩ = some (.bool bl) := (blk_cell hM1 1).trans rfl
    have m2 : w1.cell? ⟨w.heap.size + 1, 2, none⟩ = some (.bool false) := (blk_cell hM1 2).trans rfl
    have m3 : w1.cell? ⟨w.heap.size + 1, 3, none⟩ = some (.bool ea) := (blk_cell hM1 3).trans rfl
    have m4 : w1.cell? ⟨w.heap.size + 1, 4, none⟩ = some (.int .u64 nd) := (blk_cell hM1 4).trans rfl
    have f0 := blk_frozen hP1 0
    have f1 := blk_frozen hP1 1
    have f2 := blk_frozen hP1 2
    have f3 := blk_frozen hP1 3
    have f4 := blk_frozen hP1 4
    have f5 := blk_frozen hP1 5
    go_wp2
    refine carouselref14_Hear.wp_W (fun W2 hW2 => ?_)
    have hB2 : Below w.heap.size w W2 := by
      rw [hW2]
      repeat (with_reducible first | exact hB1 | apply below_alloc | apply below_drew1 | apply pw_below_drewN | refine carouselref14_Hear.set_b ?_ (by simp <;> omega) _)
    have hP2 : W2.heap[w.heap.size]? = some (.cells #[.bool s0, .bool e0, .int .u64 n0, .bool true, .bool ea, .int .u64 nd] 32 (0, 0)) := by
      rw [hW2]
      have hn_ := hP1
      (with_reducible repeat (first | exact hn_ | refine blk_drewN ?_ _ | refine blk_drew ?_ | refine blk_alloc ?_ _))
      with_reducible refine blk_put (cs := #[.bool s0, .bool e0, .int .u64 n0, .bool true, .bool ea, .int .u64 n1]) ?_ 5 _ rfl
      (with_reducible repeat (first | exact hn_ | refine blk_drewN ?_ _ | refine blk_drew ?_ | refine blk_alloc ?_ _))
      with_reducible refine blk_put (cs := #[.bool s0, .bool e0, .int .u64 n0, .bool true, .bool e1, .int .u64 n1]) ?_ 4 _ rfl
      (with_reducible repeat (first | exact hn_ | refine blk_drewN ?_ _ | refine blk_drew ?_ | refine blk_alloc ?_ _))
      with_reducible refine blk_put (cs := #[.bool s0, .bool e0, .int .u64 n0, .bool s1, .bool e1, .int .u64 n1]) ?_ 3 _ rfl
      (with_reducible repeat (first | exact hn_ | refine blk_drewN ?_ _ | refine blk_drew ?_ | refine blk_alloc ?_ _))
    have hM2 : W2.heap[w.heap.size + 1]? = some (.cells #[.int .u8 rq, .bool bl, .bool false, .bool ea, .int .u64 nd] 43 (0, 0)) := by
      rw [hW2]
      have hn_ := hM1
      (with_reducible repeat (first | exact hn_ | refine blk_drewN ?_ _ | refine blk_drew ?_ | refine blk_alloc ?_ _))
      with_reducible refine blk_far ?_ (by simp <;> omega) _
      (with_reducible repeat (first | exact hn_ | refine blk_drewN ?_ _ | refine blk_drew ?_ | refine blk_alloc ?_ _))
      with_reducible refine blk_far ?_ (by simp <;> omega) _
      (with_reducible repeat (first | exact hn_ | refine blk_drewN ?_ _ | refine blk_drew ?_ | refine blk_alloc ?_ _))
      with_reducible refine blk_far ?_ (by simp <;> omega) _
      (with_reducible repeat (first | exact hn_ | refine blk_drewN ?_ _ | refine blk_drew ?_ | refine blk_alloc ?_ _))
    have hR2 : W2.heap[w.heap.size + 1 + 1]? = some (.cells #[.bool false, .bool false, .int .u64 0, .bool false, .bool false, .int .u64 0] 32 (0, 0)) := by
      rw [hW2]
      have hn_ := hR1
      (with_reducible repeat (first | exact hn_ | refine blk_drewN ?_ _ | refine blk_drew ?_ | refine blk_alloc ?_ _))
      with_reducible refine blk_far ?_ (by simp <;> omega) _
      (with_reducible repeat (first | exact hn_ | refine blk_drewN ?_ _ | refine blk_drew ?_ | refine blk_alloc ?_ _))
      with_reducible refine blk_far ?_ (by simp <;> omega) _
      (with_reducible repeat (first | exact hn_ | refine blk_drewN ?_ _ | refine blk_drew ?_ | refine blk_alloc ?_ _))
      with_reducible refine blk_far ?_ (by simp <;> omega) _
      (with_reducible repeat (first | exact hn_ | refine blk_drewN ?_ _ | refine blk_drew ?_ | refine blk_alloc ?_ _))
    clear hW2 hB1 hP1 hM1 hR1 f0 f1 f2 f3 f4 f5 p0 p1 p2 p3 p4 p5 m0 m1 m2 m3 m4
    have p0 : W2.cell? ⟨w.heap.size, 0, none⟩ = some (.bool s0) := (blk_cell hP2 0).trans rfl
    have p1 : W2.cell? ⟨w.heap.size, 1, none⟩ = some (.bool e0) := (blk_cell hP2 1).trans rfl
    have p2 : W2.cell? ⟨w.heap.size, 2, none⟩ = some (.int .u64 n0) := (blk_cell hP2 2).trans rfl
    have p3 : W2.cell? ⟨w.heap.size, 3, none⟩ = some (.bool true) := (blk_cell hP2 3).trans rfl
    have p4 : W2.cell? ⟨w.heap.size, 4, none⟩ = some (.bool ea) := (blk_cell hP2 4).trans rfl
    have p5 : W2.cell? ⟨w.heap.size, 5, none⟩ = some (.int .u64 nd) := (blk_cell hP2 5).trans rfl
    have m0 : W2.cell? ⟨w.heap.size + 1, 0, none⟩ = some (.int .u8 rq) := (blk_cell hM2 0).trans rfl
    have m1 : W2.cell? ⟨w.heap.size + 1, 1, none⟩ = some (.bool bl) := (blk_cell hM2 1).trans rfl
    have m2 : W2.cell? ⟨w.heap.size + 1, 2, none⟩ = some (.bool false) := (blk_cell hM2 2).trans rfl
    have m3 : W2.cell? ⟨w.heap.size + 1, 3, none⟩ = some (.bool ea) := (blk_cell hM2 3).trans rfl
    have m4 : W2.cell? ⟨w.heap.size + 1, 4, none⟩ = some (.int .u64 nd) := (blk_cell hM2 4).trans rfl
    go_region_with (go_at_call 11; refine (carouselref14_Hear.same_at _ _ _ _ _ _ _ _ _ _ HF.out).mono ?_; rintro e' w3 ⟨rfl, hb⟩; have hB3 := carouselref14_Hear.call_b (w := w) (by repeat (with_reducible first | exact hB2 | apply below_alloc | apply below_drew1 | apply pw_below_drewN | refine carouselref14_Hear.set_b ?_ (by simp <;> omega) _)) hb; have hP3 := blk_below (g := w.heap.size) (o := .cells #[.bool s0, .bool e0, .int .u64 n0, .bool true, .bool ea, .int .u64 nd] 32 (0, 0)) (by have hn_ := hP2; (with_reducible repeat (first | exact hn_ | refine blk_drewN ?_ _ | refine blk_drew ?_ | refine blk_alloc ?_ _))) hb; have hM3 := blk_below (g := w.heap.size + 1) (o := .cells #[.int .u8 rq, .bool bl, .bool false, .bool ea, .int .u64 nd] 43 (0, 0)) (by have hn_ := hM2; (with_reducible repeat (first | exact hn_ | refine blk_drewN ?_ _ | refine blk_drew ?_ | refine blk_alloc ?_ _))) hb; have hR3 := blk_below (g := w.heap.size + 1 + 1) (o := .cells #[.bool false, .bool false, .int .u64 0, .bool false, .bool false, .int .u64 0] 32 (0, 0)) (by have hn_ := hR2; (with_reducible repeat (first | exact hn_ | refine blk_drewN ?_ _ | refine blk_drew ?_ | refine blk_alloc ?_ _))) hb; clear hb)
    all_goals
      clear p0 p1 p2 p3 p4 p5 m0 m1 m2 m3 m4
      have p0 : w3.cell? ⟨w.heap.size, 0, none⟩ = some (.bool s0) := (blk_cell hP3 0).trans rfl
      have p1 : w3.cell? ⟨w.heap.size, 1, none⟩ = some (.bool e0) := (blk_cell hP3 1).trans rfl
      have p2 : w3.cell? ⟨w.heap.size, 2, none⟩ = some (.int .u64 n0) := (blk_cell hP3 2).trans rfl
      have p3 : w3.cell? ⟨w.heap.size, 3, none⟩ = some (.bool true) := (blk_cell hP3 3).trans rfl
      have p4 : w3.cell? ⟨w.heap.size, 4, none⟩ = some (.bool ea) := (blk_cell hP3 4).trans rfl
      have p5 : w3.cell? ⟨w.heap.size, 5, none⟩ = some (.int .u64 nd) := (blk_cell hP3 5).trans rfl
      have r0 : w3.cell? ⟨w.heap.size + 1 + 1, 0, none⟩ = some (.bool false) := (blk_cell hR3 0).trans rfl
      have r1 : w3.cell? ⟨w.heap.size + 1 + 1, 1, none⟩ = some (.bool false) := (blk_cell hR3 1).trans rfl
      have r2 : w3.cell? ⟨w.heap.size + 1 + 1, 2, none⟩ = some (.int .u64 0) := (blk_cell hR3 2).trans rfl
      have r3 : w3.cell? ⟨w.heap.size + 1 + 1, 3, none⟩ = some (.bool false) := (blk_cell hR3 3).trans rfl
      have r4 : w3.cell? ⟨w.heap.size + 1 + 1, 4, none⟩ = some (.bool false) := (blk_cell hR3 4).trans rfl
      have r5 : w3.cell? ⟨w.heap.size + 1 + 1, 5, none⟩ = some (.int .u64 0) := (blk_cell hR3 5).trans rfl
      have f0 := blk_frozen hR3 0
      have f1 := blk_frozen hR3 1
      have f2 := blk_frozen hR3 2
      have f3 := blk_frozen hR3 3
      have f4 := blk_frozen hR3 4
      have f5 := blk_frozen hR3 5
      cases b
      all_goals
        go_wp2
        refine carouselref14_Hear.post_W (fun W5 hW5 => ?_)
        have hB5 : Below w.heap.size w W5 := by
          rw [hW5]
          repeat (with_reducible first | exact hB3 | apply below_alloc | apply below_drew1 | apply pw_below_drewN | refine carouselref14_Hear.set_b ?_ (by simp <;> omega) _)
        have hR5 : W5.heap[w.heap.size + 1 + 1]? = some (.cells #[.bool s0, .bool e0, .int .u64 n0, .bool true, .bool ea, .int .u64 nd] 32 (0, 0)) := by
          rw [hW5]
          have hn_ := hR3
          (with_reducible repeat (first | exact hn_ | refine blk_drewN ?_ _ | refine blk_drew ?_ | refine blk_alloc ?_ _))
          with_reducible refine blk_put (cs := #[.bool s0, .bool e0, .int .u64 n0, .bool true, .bool ea, .int .u64 0]) ?_ 5 _ rfl
          (with_reducible repeat (first | exact hn_ | refine blk_drewN ?_ _ | refine blk_drew ?_ | refine blk_alloc ?_ _))
          with_reducible refine blk_put (cs := #[.bool s0, .bool e0, .int .u64 n0, .bool true, .bool false, .int .u64 0]) ?_ 4 _ rfl
          (with_reducible repeat (first | exact hn_ | refine blk_drewN ?_ _ | refine blk_drew ?_ | refine blk_alloc ?_ _))
          with_reducible refine blk_put (cs := #[.bool s0, .bool e0, .int .u64 n0, .bool false, .bool false, .int .u64 0]) ?_ 3 _ rfl
          (with_reducible repeat (first | exact hn_ | refine blk_drewN ?_ _ | refine blk_drew ?_ | refine blk_alloc ?_ _))
          with_reducible refine blk_put (cs := #[.bool s0, .bool e0, .int .u64 0, .bool false, .bool false, .int .u64 0]) ?_ 2 _ rfl
          (with_reducible repeat (first | exact hn_ | refine blk_drewN ?_ _ | refine blk_drew ?_ | refine blk_alloc ?_ _))
          with_reducible refine blk_put (cs := #[.bool s0, .bool false, .int .u64 0, .bool false, .bool false, .int .u64 0]) ?_ 1 _ rfl
          (with_reducible repeat (first | exact hn_ | refine blk_drewN ?_ _ | refine blk_drew ?_ | refine blk_alloc ?_ _))
          with_reducible refine blk_put (cs := #[.bool false, .bool false, .int .u64 0, .bool false, .bool false, .int .u64 0]) ?_ 0 _ rfl
          (with_reducible repeat (first | exact hn_ | refine blk_drewN ?_ _ | refine blk_drew ?_ | refine blk_alloc ?_ _))
        have z0 : W5.cell? ⟨w.heap.size + 1 + 1, 0, none⟩ = some (.bool s0) := (blk_cell hR5 0).trans rfl
        have z1 : W5.cell? ⟨w.heap.size + 1 + 1, 1, none⟩ = some (.bool e0) := (blk_cell hR5 1).trans rfl
        have z2 : W5.cell? ⟨w.heap.size + 1 + 1, 2, none⟩ = some (.int .u64 n0) := (blk_cell hR5 2).trans rfl
        have z3 : W5.cell? ⟨w.heap.size + 1 + 1, 3, none⟩ = some (.bool true) := (blk_cell hR5 3).trans rfl
        have z4 : W5.cell? ⟨w.heap.size + 1 + 1, 4, none⟩ = some (.bool ea) := (blk_cell hR5 4).trans rfl
        have z5 : W5.cell? ⟨w.heap.size + 1 + 1, 5, none⟩ = some (.int .u64 nd) := (blk_cell hR5 5).trans rfl
        first | exact bodyPost_ret (v := .tuple #[.agg #[.bool s0, .bool e0, .int .u64 n0, .bool true, .bool ea, .int .u64 nd], .bool (true)]) (by simp [results, Try.results7, go_sem, z0, z1, z2, z3, z4, z5]) rfl ⟨rfl, hB5⟩ | exact bodyPost_ret (v := .tuple #[.agg #[.bool s0, .bool e0, .int .u64 n0, .bool true, .bool ea, .int .u64 nd], .bool (false)]) (by simp [results, Try.results7, go_sem, z0, z1, z2, z3, z4, z5]) rfl ⟨rfl, hB5⟩
set_option maxHeartbeats 8000000 in
set_option maxRecDepth 100000 in
theorem carouselref14_Hear.s1b (s0 e0 : Bool) (n0 : Int) (s1 e1 : Bool) (n1 : Int) (kp ea : Bool) (nd : Int) (w : World) (hE : (s1 && (e1 == ea && n1 == nd)) = true) :
    Calls Try.prog 7 #[.agg #[.bool s0, .bool e0, .int .u64 n0, .bool s1, .bool e1, .int .u64 n1], .int .i64 1, .agg #[.int .u8 0, .bool true, .bool kp, .bool ea, .int .u64 nd]] w fun e w' =>
      e = .returned (.tuple #[.agg #[.bool s0, .bool e0, .int .u64 n0, .bool s1, .bool e1, .int .u64 n1], .bool (false)]) ∧ Below w.heap.size w w' := by
  have huA := Try.underlying32
  have HE := Lib.hid hE
  clear hE
  have hn0 := blk_new w (.cells #[.bool s0, .bool e0, .int .u64 n0, .bool s1, .bool e1, .int .u64 n1] 32)
  have hn1 := blk_new (w.alloc (.cells #[.bool s0, .bool e0, .int .u64 n0, .bool s1, .bool e1, .int .u64 n1] 32)) (.cells #[.int .u8 0, .bool true, .bool kp, .bool ea, .int .u64 nd] 43)
  have hn2 := blk_new ((w.alloc (.cells #[.bool s0, .bool e0, .int .u64 n0, .bool s1, .bool e1, .int .u64 n1] 32)).alloc (.cells #[.int .u8 0, .bool true, .bool kp, .bool ea, .int .u64 nd] 43)) (.cells #[.bool false, .bool false, .int .u64 0, .bool false, .bool false, .int .u64 0] 32)
  simp only [World.size_alloc] at hn1 hn2
  have Hn0 := Lib.hid hn0
  have Hn1 := Lib.hid hn1
  have Hn2 := Lib.hid hn2
  clear hn0 hn1 hn2
  go_enter Try.func7, Try.ntmps7
  go_wp2
  go_region_with (go_at_call 11; refine (carouselref14_Hear.same_at _ _ _ _ _ _ _ _ _ _ HE.out).mono ?_; rintro e' w1 ⟨rfl, hb⟩; have hB1 := carouselref14_Hear.call_b (w := w) (by repeat (with_reducible first | exact Below.refl _ _ | apply below_alloc | apply below_drew1 | apply pw_below_drewN | refine carouselref14_Hear.set_b ?_ (by simp <;> omega) _)) hb; have hP1 := blk_below (g := w.heap.size) (o := .cells #[.bool s0, .bool e0, .int .u64 n0, .bool s1, .bool e1, .int .u64 n1] 32 (0, 0)) (by have hn_ := Hn0.out; (with_reducible repeat (first | exact hn_ | refine blk_drewN ?_ _ | refine blk_drew ?_ | refine blk_alloc ?_ _))) hb; have hM1 := blk_below (g := w.heap.size + 1) (o := .cells #[.int .u8 0, .bool true, .bool kp, .bool ea, .int .u64 nd] 43 (0, 0)) (by have hn_ := Hn1.out; (with_reducible repeat (first | exact hn_ | refine blk_drewN ?_ _ | refine blk_drew ?_ | refine blk_alloc ?_ _))) hb; have hR1 := blk_below (g := w.heap.size + 1 + 1) (o := .cells #[.bool false, .bool false, .int .u64 0, .bool false, .bool false, .int .u64 0] 32 (0, 0)) (by have hn_ := Hn2.out; (with_reducible repeat (first | exact hn_ | refine blk_drewN ?_ _ | refine blk_drew ?_ | refine blk_alloc ?_ _))) hb; clear hb)
  all_goals
    have p0 : w1.cell? ⟨w.heap.size, 0, none⟩ = some (.bool s0) := (blk_cell hP1 0).trans rfl
    have p1 : w1.cell? ⟨w.heap.size, 1, none⟩ = some (.bool e0) := (blk_cell hP1 1).trans rfl
    have p2 : w1.cell? ⟨w.heap.size, 2, none⟩ = some (.int .u64 n0) := (blk_cell hP1 2).trans rfl
    have p3 : w1.cell? ⟨w.heap.size, 3, none⟩ = some (.bool s1) := (blk_cell hP1 3).trans rfl
    have p4 : w1.cell? ⟨w.heap.size, 4, none⟩ = some (.bool e1) := (blk_cell hP1 4).trans rfl
    have p5 : w1.cell? ⟨w.heap.size, 5, none⟩ = some (.int .u64 n1) := (blk_cell hP1 5).trans rfl
    have r0 : w1.cell? ⟨w.heap.size + 1 + 1, 0, none⟩ = some (.bool false) := (blk_cell hR1 0).trans rfl
    have r1 : w1.cell? ⟨w.heap.size + 1 + 1, 1, none⟩ = some (.bool false) := (blk_cell hR1 1).trans rfl
    have r2 : w1.cell? ⟨w.heap.size + 1 + 1, 2, none⟩ = some (.int .u64 0) := (blk_cell hR1 2).trans rfl
    have r3 : w1.cell? ⟨w.heap.size + 1 + 1, 3, none⟩ = some (.bool false) := (blk_cell hR1 3).trans rfl
    have r4 : w1.cell? ⟨w.heap.size + 1 + 1, 4, none⟩ = some (.bool false) := (blk_cell hR1 4).trans rfl
    have r5 : w1.cell? ⟨w.heap.size + 1 + 1, 5, none⟩ = some (.int .u64 0) := (blk_cell hR1 5).trans rfl
    have f0 := blk_frozen hR1 0
    have f1 := blk_frozen hR1 1
    have f2 := blk_frozen hR1 2
    have f3 := blk_frozen hR1 3
    have f4 := blk_frozen hR1 4
    have f5 := blk_frozen hR1 5
    go_wp2
    refine carouselref14_Hear.post_W (fun W5 hW5 => ?_)
    have hB5 : Below w.heap.size w W5 := by
      rw [hW5]
      repeat (with_reducible first | exact hB1 | apply below_alloc | apply below_drew1 | apply pw_below_drewN | refine carouselref14_Hear.set_b ?_ (by simp <;> omega) _)
    have hR5 : W5.heap[w.heap.size + 1 + 1]? = some (.cells #[.bool s0, .bool e0, .int .u64 n0, .bool s1, .bool e1, .int .u64 n1] 32 (0, 0)) := by
      rw [hW5]
      have hn_ := hR1
      (with_reducible repeat (first | exact hn_ | refine blk_drewN ?_ _ | refine blk_drew ?_ | refine blk_alloc ?_ _))
      with_reducible refine blk_put (cs := #[.bool s0, .bool e0, .int .u64 n0, .bool s1, .bool e1, .int .u64 0]) ?_ 5 _ rfl
      (with_reducible repeat (first | exact hn_ | refine blk_drewN ?_ _ | refine blk_drew ?_ | refine blk_alloc ?_ _))
      with_reducible refine blk_put (cs := #[.bool s0, .bool e0, .int .u64 n0, .bool s1, .bool false, .int .u64 0]) ?_ 4 _ rfl
      (with_reducible repeat (first | exact hn_ | refine blk_drewN ?_ _ | refine blk_drew ?_ | refine blk_alloc ?_ _))
      with_reducible refine blk_put (cs := #[.bool s0, .bool e0, .int .u64 n0, .bool false, .bool false, .int .u64 0]) ?_ 3 _ rfl
      (with_reducible repeat (first | exact hn_ | refine blk_drewN ?_ _ | refine blk_drew ?_ | refine blk_alloc ?_ _))
      with_reducible refine blk_put (cs := #[.bool s0, .bool e0, .int .u64 0, .bool false, .bool false, .int .u64 0]) ?_ 2 _ rfl
      (with_reducible repeat (first | exact hn_ | refine blk_drewN ?_ _ | refine blk_drew ?_ | refine blk_alloc ?_ _))
      with_reducible refine blk_put (cs := #[.bool s0, .bool false, .int .u64 0, .bool false, .bool false, .int .u64 0]) ?_ 1 _ rfl
      (with_reducible repeat (first | exact hn_ | refine blk_drewN ?_ _ | refine blk_drew ?_ | refine blk_alloc ?_ _))
      with_reducible refine blk_put (cs := #[.bool false, .bool false, .int .u64 0, .bool false, .bool false, .int .u64 0]) ?_ 0 _ rfl
      (with_reducible repeat (first | exact hn_ | refine blk_drewN ?_ _ | refine blk_drew ?_ | refine blk_alloc ?_ _))
    have z0 : W5.cell? ⟨w.heap.size + 1 + 1, 0, none⟩ = some (.bool s0) := (blk_cell hR5 0).trans rfl
    have z1 : W5.cell? ⟨w.heap.size + 1 + 1, 1, none⟩ = some (.bool e0) := (blk_cell hR5 1).trans rfl
    have z2 : W5.cell? ⟨w.heap.size + 1 + 1, 2, none⟩ = some (.int .u64 n0) := (blk_cell hR5 2).trans rfl
    have z3 : W5.cell? ⟨w.heap.size + 1 + 1, 3, none⟩ = some (.bool s1) := (blk_cell hR5 3).trans rfl
    have z4 : W5.cell? ⟨w.heap.size + 1 + 1, 4, none⟩ = some (.bool e1) := (blk_cell hR5 4).trans rfl
    have z5 : W5.cell? ⟨w.heap.size + 1 + 1, 5, none⟩ = some (.int .u64 n1) := (blk_cell hR5 5).trans rfl
    exact bodyPost_ret (v := .tuple #[.agg #[.bool s0, .bool e0, .int .u64 n0, .bool s1, .bool e1, .int .u64 n1], .bool (false)]) (by simp [results, Try.results7, go_sem, z0, z1, z2, z3, z4, z5]) rfl ⟨rfl, hB5⟩
set_option maxHeartbeats 8000000 in
set_option maxRecDepth 100000 in
theorem carouselref14_Hear.d1bt (s0 e0 : Bool) (n0 : Int) (s1 e1 : Bool) (n1 : Int) (ea : Bool) (nd : Int) (w : World) (hE : (s1 && (e1 == ea && n1 == nd)) = false) :
    Calls Try.prog 7 #[.agg #[.bool s0, .bool e0, .int .u64 n0, .bool s1, .bool e1, .int .u64 n1], .int .i64 1, .agg #[.int .u8 0, .bool true, .bool true, .bool ea, .int .u64 nd]] w fun e w' =>
      e = .returned (.tuple #[.agg #[.bool s0, .bool e0, .int .u64 n0, .bool true, .bool ea, .int .u64 nd], .bool (false)]) ∧ Below w.heap.size w w' := by
  have huA := Try.underlying32
  have HE := Lib.hid hE
  clear hE
  have hn0 := blk_new w (.cells #[.bool s0, .bool e0, .int .u64 n0, .bool s1, .bool e1, .int .u64 n1] 32)
  have hn1 := blk_new (w.alloc (.cells #[.bool s0, .bool e0, .int .u64 n0, .bool s1, .bool e1, .int .u64 n1] 32)) (.cells #[.int .u8 0, .bool true, .bool true, .bool ea, .int .u64 nd] 43)
  have hn2 := blk_new ((w.alloc (.cells #[.bool s0, .bool e0, .int .u64 n0, .bool s1, .bool e1, .int .u64 n1] 32)).alloc (.cells #[.int .u8 0, .bool true, .bool true, .bool ea, .int .u64 nd] 43)) (.cells #[.bool false, .bool false, .int .u64 0, .bool false, .bool false, .int .u64 0] 32)
  simp only [World.size_alloc] at hn1 hn2
  have Hn0 := Lib.hid hn0
  have Hn1 := Lib.hid hn1
  have Hn2 := Lib.hid hn2
  clear hn0 hn1 hn2
  go_enter Try.func7, Try.ntmps7
  go_wp2
  go_region_with (go_at_call 11; refine (carouselref14_Hear.same_at _ _ _ _ _ _ _ _ _ _ HE.out).mono ?_; rintro e' w1 ⟨rfl, hb⟩; have hB1 := carouselref14_Hear.call_b (w := w) (by repeat (with_reducible first | exact Below.refl _ _ | apply below_alloc | apply below_drew1 | apply pw_below_drewN | refine carouselref14_Hear.set_b ?_ (by simp <;> omega) _)) hb; have hP1 := blk_below (g := w.heap.size) (o := .cells #[.bool s0, .bool e0, .int .u64 n0, .bool s1, .bool e1, .int .u64 n1] 32 (0, 0)) (by have hn_ := Hn0.out; (with_reducible repeat (first | exact hn_ | refine blk_drewN ?_ _ | refine blk_drew ?_ | refine blk_alloc ?_ _))) hb; have hM1 := blk_below (g := w.heap.size + 1) (o := .cells #[.int .u8 0, .bool true, .bool true, .bool ea, .int .u64 nd] 43 (0, 0)) (by have hn_ := Hn1.out; (with_reducible repeat (first | exact hn_ | refine blk_drewN ?_ _ | refine blk_drew ?_ | refine blk_alloc ?_ _))) hb; have hR1 := blk_below (g := w.heap.size + 1 + 1) (o := .cells #[.bool false, .bool false, .int .u64 0, .bool false, .bool false, .int .u64 0] 32 (0, 0)) (by have hn_ := Hn2.out; (with_reducible repeat (first | exact hn_ | refine blk_drewN ?_ _ | refine blk_drew ?_ | refine blk_alloc ?_ _))) hb; clear hb)
  all_goals
    have p0 : w1.cell? ⟨w.heap.size, 0, none⟩ = some (.bool s0) := (blk_cell hP1 0).trans rfl
    have p1 : w1.cell? ⟨w.heap.size, 1, none⟩ = some (.bool e0) := (blk_cell hP1 1).trans rfl
    have p2 : w1.cell? ⟨w.heap.size, 2, none⟩ = some (.int .u64 n0) := (blk_cell hP1 2).trans rfl
    have p3 : w1.cell? ⟨w.heap.size, 3, none⟩ = some (.bool s1) := (blk_cell hP1 3).trans rfl
    have p4 : w1.cell? ⟨w.heap.size, 4, none⟩ = some (.bool e1) := (blk_cell hP1 4).trans rfl
    have p5 : w1.cell? ⟨w.heap.size, 5, none⟩ = some (.int .u64 n1) := (blk_cell hP1 5).trans rfl
    have m0 : w1.cell? ⟨w.heap.size + 1, 0, none⟩ = some (.int .u8 0) := (blk_cell hM1 0).trans rfl
    have m1 : w1.cell? ⟨w.heap.size + 1, 1, none⟩ = some (.bool true) := (blk_cell hM1 1).trans rfl
    have m2 : w1.cell? ⟨w.heap.size + 1, 2, none⟩ = some (.bool true) := (blk_cell hM1 2).trans rfl
    have m3 : w1.cell? ⟨w.heap.size + 1, 3, none⟩ = some (.bool ea) := (blk_cell hM1 3).trans rfl
    have m4 : w1.cell? ⟨w.heap.size + 1, 4, none⟩ = some (.int .u64 nd) := (blk_cell hM1 4).trans rfl
    have f0 := blk_frozen hP1 0
    have f1 := blk_frozen hP1 1
    have f2 := blk_frozen hP1 2
    have f3 := blk_frozen hP1 3
    have f4 := blk_frozen hP1 4
    have f5 := blk_frozen hP1 5
    go_wp2
    refine carouselref14_Hear.wp_W (fun W2 hW2 => ?_)
    have hB2 : Below w.heap.size w W2 := by
      rw [hW2]
      repeat (with_reducible first | exact hB1 | apply below_alloc | apply below_drew1 | apply pw_below_drewN | refine carouselref14_Hear.set_b ?_ (by simp <;> omega) _)
    have hP2 : W2.heap[w.heap.size]? = some (.cells #[.bool s0, .bool e0, .int .u64 n0, .bool true, .bool ea, .int .u64 nd] 32 (0, 0)) := by
      rw [hW2]
      have hn_ := hP1
      (with_reducible repeat (first | exact hn_ | refine blk_drewN ?_ _ | refine blk_drew ?_ | refine blk_alloc ?_ _))
      with_reducible refine blk_put (cs := #[.bool s0, .bool e0, .int .u64 n0, .bool true, .bool ea, .int .u64 n1]) ?_ 5 _ rfl
      (with_reducible repeat (first | exact hn_ | refine blk_drewN ?_ _ | refine blk_drew ?_ | refine blk_alloc ?_ _))
      with_reducible refine blk_put (cs := #[.bool s0, .bool e0, .int .u64 n0, .bool true, .bool e1, .int .u64 n1]) ?_ 4 _ rfl
      (with_reducible repeat (first | exact hn_ | refine blk_drewN ?_ _ | refine blk_drew ?_ | refine blk_alloc ?_ _))
      with_reducible refine blk_put (cs := #[.bool s0, .bool e0, .int .u64 n0, .bool s1, .bool e1, .int .u64 n1]) ?_ 3 _ rfl
      (with_reducible repeat (first | exact hn_ | refine blk_drewN ?_ _ | refine blk_drew ?_ | refine blk_alloc ?_ _))
    have hM2 : W2.heap[w.heap.size + 1]? = some (.cells #[.int .u8 0, .bool true, .bool true, .bool ea, .int .u64 nd] 43 (0, 0)) := by
      rw [hW2]
      have hn_ := hM1
      (with_reducible repeat (first | exact hn_ | refine blk_drewN ?_ _ | refine blk_drew ?_ | refine blk_alloc ?_ _))
      with_reducible refine blk_far ?_ (by simp <;> omega) _
      (with_reducible repeat (first | exact hn_ | refine blk_drewN ?_ _ | refine blk_drew ?_ | refine blk_alloc ?_ _))
      with_reducible refine blk_far ?_ (by simp <;> omega) _
      (with_reducible repeat (first | exact hn_ | refine blk_drewN ?_ _ | refine blk_drew ?_ | refine blk_alloc ?_ _))
      with_reducible refine blk_far ?_ (by simp <;> omega) _
      (with_reducible repeat (first | exact hn_ | refine blk_drewN ?_ _ | refine blk_drew ?_ | refine blk_alloc ?_ _))
    have hR2 : W2.heap[w.heap.size + 1 + 1]? = some (.cells #[.bool false, .bool false, .int .u64 0, .bool false, .bool false, .int .u64 0] 32 (0, 0)) := by
      rw [hW2]
      have hn_ := hR1
      (with_reducible repeat (first | exact hn_ | refine blk_drewN ?_ _ | refine blk_drew ?_ | refine blk_alloc ?_ _))
      with_reducible refine blk_far ?_ (by simp <;> omega) _
      (with_reducible repeat (first | exact hn_ | refine blk_drewN ?_ _ | refine blk_drew ?_ | refine blk_alloc ?_ _))
      with_reducible refine blk_far ?_ (by simp <;> omega) _
      (with_reducible repeat (first | exact hn_ | refine blk_drewN ?_ _ | refine blk_drew ?_ | refine blk_alloc ?_ _))
      with_reducible refine blk_far ?_ (by simp <;> omega) _
      (with_reducible repeat (first | exact hn_ | refine blk_drewN ?_ _ | refine blk_drew ?_ | refine blk_alloc ?_ _))
    clear hW2 hB1 hP1 hM1 hR1 f0 f1 f2 f3 f4 f5 p0 p1 p2 p3 p4 p5 m0 m1 m2 m3 m4
    have p0 : W2.cell? ⟨w.heap.size, 0, none⟩ = some (.bool s0) := (blk_cell hP2 0).trans rfl
    have p1 : W2.cell? ⟨w.heap.size, 1, none⟩ = some (.bool e0) := (blk_cell hP2 1).trans rfl
    have p2 : W2.cell? ⟨w.heap.size, 2, none⟩ = some (.int .u64 n0) := (blk_cell hP2 2).trans rfl
    have p3 : W2.cell? ⟨w.heap.size, 3, none⟩ = some (.bool true) := (blk_cell hP2 3).trans rfl
    have p4 : W2.cell? ⟨w.heap.size, 4, none⟩ = some (.bool ea) := (blk_cell hP2 4).trans rfl
    have p5 : W2.cell? ⟨w.heap.size, 5, none⟩ = some (.int .u64 nd) := (blk_cell hP2 5).trans rfl
    have m0 : W2.cell? ⟨w.heap.size + 1, 0, none⟩ = some (.int .u8 0) := (blk_cell hM2 0).trans rfl
    have m1 : W2.cell? ⟨w.heap.size + 1, 1, none⟩ = some (.bool true) := (blk_cell hM2 1).trans rfl
    have m2 : W2.cell? ⟨w.heap.size + 1, 2, none⟩ = some (.bool true) := (blk_cell hM2 2).trans rfl
    have m3 : W2.cell? ⟨w.heap.size + 1, 3, none⟩ = some (.bool ea) := (blk_cell hM2 3).trans rfl
    have m4 : W2.cell? ⟨w.heap.size + 1, 4, none⟩ = some (.int .u64 nd) := (blk_cell hM2 4).trans rfl
    have r0 : W2.cell? ⟨w.heap.size + 1 + 1, 0, none⟩ = some (.bool false) := (blk_cell hR2 0).trans rfl
    have r1 : W2.cell? ⟨w.heap.size + 1 + 1, 1, none⟩ = some (.bool false) := (blk_cell hR2 1).trans rfl
    have r2 : W2.cell? ⟨w.heap.size + 1 + 1, 2, none⟩ = some (.int .u64 0) := (blk_cell hR2 2).trans rfl
    have r3 : W2.cell? ⟨w.heap.size + 1 + 1, 3, none⟩ = some (.bool false) := (blk_cell hR2 3).trans rfl
    have r4 : W2.cell? ⟨w.heap.size + 1 + 1, 4, none⟩ = some (.bool false) := (blk_cell hR2 4).trans rfl
    have r5 : W2.cell? ⟨w.heap.size + 1 + 1, 5, none⟩ = some (.int .u64 0) := (blk_cell hR2 5).trans rfl
    have f0 := blk_frozen hR2 0
    have f1 := blk_frozen hR2 1
    have f2 := blk_frozen hR2 2
    have f3 := blk_frozen hR2 3
    have f4 := blk_frozen hR2 4
    have f5 := blk_frozen hR2 5
    go_quiet (fail)
    all_goals go_wp2
    all_goals
      refine carouselref14_Hear.post_W (fun W5 hW5 => ?_)
      have hB5 : Below w.heap.size w W5 := by
        rw [hW5]
        repeat (with_reducible first | exact hB2 | apply below_alloc | apply below_drew1 | apply pw_below_drewN | refine carouselref14_Hear.set_b ?_ (by simp <;> omega) _)
      have hR5 : W5.heap[w.heap.size + 1 + 1]? = some (.cells #[.bool s0, .bool e0, .int .u64 n0, .bool true, .bool ea, .int .u64 nd] 32 (0, 0)) := by
        rw [hW5]
        have hn_ := hR2
        (with_reducible repeat (first | exact hn_ | refine blk_drewN ?_ _ | refine blk_drew ?_ | refine blk_alloc ?_ _))
        with_reducible refine blk_put (cs := #[.bool s0, .bool e0, .int .u64 n0, .bool true, .bool ea, .int .u64 0]) ?_ 5 _ rfl
        (with_reducible repeat (first | exact hn_ | refine blk_drewN ?_ _ | refine blk_drew ?_ | refine blk_alloc ?_ _))
        with_reducible refine blk_put (cs := #[.bool s0, .bool e0, .int .u64 n0, .bool true, .bool false, .int .u64 0]) ?_ 4 _ rfl
        (with_reducible repeat (first | exact hn_ | refine blk_drewN ?_ _ | refine blk_drew ?_ | refine blk_alloc ?_ _))
        with_reducible refine blk_put (cs := #[.bool s0, .bool e0, .int .u64 n0, .bool false, .bool false, .int .u64 0]) ?_ 3 _ rfl
        (with_reducible repeat (first | exact hn_ | refine blk_drewN ?_ _ | refine blk_drew ?_ | refine blk_alloc ?_ _))
        with_reducible refine blk_put (cs := #[.bool s0, .bool e0, .int .u64 0, .bool false, .bool false, .int .u64 0]) ?_ 2 _ rfl
        (with_reducible repeat (first | exact hn_ | refine blk_drewN ?_ _ | refine blk_drew ?_ | refine blk_alloc ?_ _))
        with_reducible refine blk_put (cs := #[.bool s0, .bool false, .int .u64 0, .bool false, .bool false, .int .u64 0]) ?_ 1 _ rfl
        (with_reducible repeat (first | exact hn_ | refine blk_drewN ?_ _ | refine blk_drew ?_ | refine blk_alloc ?_ _))
        with_reducible refine blk_put (cs := #[.bool false, .bool false, .int .u64 0, .bool false, .bool false, .int .u64 0]) ?_ 0 _ rfl
        (with_reducible repeat (first | exact hn_ | refine blk_drewN ?_ _ | refine blk_drew ?_ | refine blk_alloc ?_ _))
      have z0 : W5.cell? ⟨w.heap.size + 1 + 1, 0, none⟩ = some (.bool s0) := (blk_cell hR5 0).trans rfl
      have z1 : W5.cell? ⟨w.heap.size + 1 + 1, 1, none⟩ = some (.bool e0) := (blk_cell hR5 1).trans rfl
      have z2 : W5.cell? ⟨w.heap.size + 1 + 1, 2, none⟩ = some (.int .u64 n0) := (blk_cell hR5 2).trans rfl
      have z3 : W5.cell? ⟨w.heap.size + 1 + 1, 3, none⟩ = some (.bool true) := (blk_cell hR5 3).trans rfl
      have z4 : W5.cell? ⟨w.heap.size + 1 + 1, 4, none⟩ = some (.bool ea) := (blk_cell hR5 4).trans rfl
      have z5 : W5.cell? ⟨w.heap.size + 1 + 1, 5, none⟩ = some (.int .u64 nd) := (blk_cell hR5 5).trans rfl
      exact bodyPost_ret (v := .tuple #[.agg #[.bool s0, .bool e0, .int .u64 n0, .bool true, .bool ea, .int .u64 nd], .bool (false)]) (by simp [results, Try.results7, go_sem, z0, z1, z2, z3, z4, z5]) rfl ⟨rfl, hB5⟩
set_option maxHeartbeats 8000000 in
set_option maxRecDepth 100000 in
theorem carouselref14_Hear.d1bf (s0 e0 : Bool) (n0 : Int) (s1 e1 : Bool) (n1 : Int) (ea : Bool) (nd : Int) (b : Bool) (w : World) (hE : (s1 && (e1 == ea && n1 == nd)) = false) (hF : (s0 && (e0 == ea && n0 == nd)) = b) :
    Calls Try.prog 7 #[.agg #[.bool s0, .bool e0, .int .u64 n0, .bool s1, .bool e1, .int .u64 n1], .int .i64 1, .agg #[.int .u8 0, .bool true, .bool false, .bool ea, .int .u64 nd]] w fun e w' =>
      e = .returned (.tuple #[.agg #[.bool s0, .bool e0, .int .u64 n0, .bool true, .bool ea, .int .u64 nd], .bool (!b)]) ∧ Below w.heap.size w w' := by
  have huA := Try.underlying32
  have HE := Lib.hid hE
  have HF := Lib.hid hF
  clear hF
  clear hE
  have hn0 := blk_new w (.cells #[.bool s0, .bool e0, .int .u64 n0, .bool s1, .bool e1, .int .u64 n1] 32)
  have hn1 := blk_new (w.alloc (.cells #[.bool s0, .bool e0, .int .u64 n0, .bool s1, .bool e1, .int .u64 n1] 32)) (.cells #[.int .u8 0, .bool true, .bool false, .bool ea, .int .u64 nd] 43)
  have hn2 := blk_new ((w.alloc (.cells #[.bool s0, .bool e0, .int .u64 n0, .bool s1, .bool e1, .int .u64 n1] 32)).alloc (.cells #[.int .u8 0, .bool true, .bool false, .bool ea, .int .u64 nd] 43)) (.cells #[.bool false, .bool false, .int .u64 0, .bool false, .bool false, .int .u64 0] 32)
  simp only [World.size_alloc] at hn1 hn2
  have Hn0 := Lib.hid hn0
  have Hn1 := Lib.hid hn1
  have Hn2 := Lib.hid hn2
  clear hn0 hn1 hn2
  go_enter Try.func7, Try.ntmps7
  go_wp2
  go_region_with (go_at_call 11; refine (carouselref14_Hear.same_at _ _ _ _ _ _ _ _ _ _ HE.out).mono ?_; rintro e' w1 ⟨rfl, hb⟩; have hB1 := carouselref14_Hear.call_b (w := w) (by repeat (with_reducible first | exact Below.refl _ _ | apply below_alloc | apply below_drew1 | apply pw_below_drewN | refine carouselref14_Hear.set_b ?_ (by simp <;> omega) _)) hb; have hP1 := blk_below (g := w.heap.size) (o := .cells #[.bool s0, .bool e0, .int .u64 n0, .bool s1, .bool e1, .int .u64 n1] 32 (0, 0)) (by have hn_ := Hn0.out; (with_reducible repeat (first | exact hn_ | refine blk_drewN ?_ _ | refine blk_drew ?_ | refine blk_alloc ?_ _))) hb; have hM1 := blk_below (g := w.heap.size + 1) (o := .cells #[.int .u8 0, .bool true, .bool false, .bool ea, .int .u64 nd] 43 (0, 0)) (by have hn_ := Hn1.out; (with_reducible repeat (first | exact hn_ | refine blk_drewN ?_ _ | refine blk_drew ?_ | refine blk_alloc ?_ _))) hb; have hR1 := blk_below (g := w.heap.size + 1 + 1) (o := .cells #[.bool false, .bool false, .int .u64 0, .bool false, .bool false, .int .u64 0] 32 (0, 0)) (by have hn_ := Hn2.out; (with_reducible repeat (first | exact hn_ | refine blk_drewN ?_ _ | refine blk_drew ?_ | refine blk_alloc ?_ _))) hb; clear hb)
  all_goals
    have p0 : w1.cell? ⟨w.heap.size, 0, none⟩ = some (.bool s0) := (blk_cell hP1 0).trans rfl
    have p1 : w1.cell? ⟨w.heap.size, 1, none⟩ = some (.bool e0) := (blk_cell hP1 1).trans rfl
    have p2 : w1.cell? ⟨w.heap.size, 2, none⟩ = some (.int .u64 n0) := (blk_cell hP1 2).trans rfl
    have p3 : w1.cell? ⟨w.heap.size, 3, none⟩ = some (.bool s1) := (blk_cell hP1 3).trans rfl
    have p4 : w1.cell? ⟨w.heap.size, 4, none⟩ = some (.bool e1) := (blk_cell hP1 4).trans rfl
    have p5 : w1.cell? ⟨w.heap.size, 5, none⟩ = some (.int .u64 n1) := (blk_cell hP1 5).trans rfl
    have m0 : w1.cell? ⟨w.heap.size + 1, 0, none⟩ = some (.int .u8 0) := (blk_cell hM1 0).trans rfl
    have m1 : w1.cell? ⟨w.heap.size + 1, 1, none⟩ = some (.bool true) := (blk_cell hM1 1).trans rfl
    have m2 : w1.cell? ⟨w.heap.size + 1, 2, none⟩ = some (.bool false) := (blk_cell hM1 2).trans rfl
    have m3 : w1.cell? ⟨w.heap.size + 1, 3, none⟩ = some (.bool ea) := (blk_cell hM1 3).trans rfl
    have m4 : w1.cell? ⟨w.heap.size + 1, 4, none⟩ = some (.int .u64 nd) := (blk_cell hM1 4).trans rfl
    have f0 := blk_frozen hP1 0
    have f1 := blk_frozen hP1 1
    have f2 := blk_frozen hP1 2
    have f3 := blk_frozen hP1 3
    have f4 := blk_frozen hP1 4
    have f5 := blk_frozen hP1 5
    go_wp2
    refine carouselref14_Hear.wp_W (fun W2 hW2 => ?_)
    have hB2 : Below w.heap.size w W2 := by
      rw [hW2]
      repeat (with_reducible first | exact hB1 | apply below_alloc | apply below_drew1 | apply pw_below_drewN | refine carouselref14_Hear.set_b ?_ (by simp <;> omega) _)
    have hP2 : W2.heap[w.heap.size]? = some (.cells #[.bool s0, .bool e0, .int .u64 n0, .bool true, .bool ea, .int .u64 nd] 32 (0, 0)) := by
      rw [hW2]
      have hn_ := hP1
      (with_reducible repeat (first | exact hn_ | refine blk_drewN ?_ _ | refine blk_drew ?_ | refine blk_alloc ?_ _))
      with_reducible refine blk_put (cs := #[.bool s0, .bool e0, .int .u64 n0, .bool true, .bool ea, .int .u64 n1]) ?_ 5 _ rfl
      (with_reducible repeat (first | exact hn_ | refine blk_drewN ?_ _ | refine blk_drew ?_ | refine blk_alloc ?_ _))
      with_reducible refine blk_put (cs := #[.bool s0, .bool e0, .int .u64 n0, .bool true, .bool e1, .int .u64 n1]) ?_ 4 _ rfl
      (with_reducible repeat (first | exact hn_ | refine blk_drewN ?_ _ | refine blk_drew ?_ | refine blk_alloc ?_ _))
      with_reducible refine blk_put (cs := #[.bool s0, .bool e0, .int .u64 n0, .bool s1, .bool e1, .int .u64 n1]) ?_ 3 _ rfl
      (with_reducible repeat (first | exact hn_ | refine blk_drewN ?_ _ | refine blk_drew ?_ | refine blk_alloc ?_ _))
    have hM2 : W2.heap[w.heap.size + 1]? = some (.cells #[.int .u8 0, .bool true, .bool false, .bool ea, .int .u64 nd] 43 (0, 0)) := by
      rw [hW2]
      have hn_ := hM1
      (with_reducible repeat (first | exact hn_ | refine blk_drewN ?_ _ | refine blk_drew ?_ | refine blk_alloc ?_ _))
      with_reducible refine blk_far ?_ (by simp <;> omega) _
      (with_reducible repeat (first | exact hn_ | refine blk_drewN ?_ _ | refine blk_drew ?_ | refine blk_alloc ?_ _))
      with_reducible refine blk_far ?_ (by simp <;> omega) _
      (with_reducible repeat (first | exact hn_ | refine blk_drewN ?_ _ | refine blk_drew ?_ | refine blk_alloc ?_ _))
      with_reducible refine blk_far ?_ (by simp <;> omega) _
      (with_reducible repeat (first | exact hn_ | refine blk_drewN ?_ _ | refine blk_drew ?_ | refine blk_alloc ?_ _))
    have hR2 : W2.heap[w.heap.size + 1 + 1]? = some (.cells #[.bool false, .bool false, .int .u64 0, .bool false, .bool false, .int .u64 0] 32 (0, 0)) := by
      rw [hW2]
      have hn_ := hR1
      (with_reducible repeat (first | exact hn_ | refine blk_drewN ?_ _ | refine blk_drew ?_ | refine blk_alloc ?_ _))
      with_reducible refine blk_far ?_ (by simp <;> omega) _
      (with_reducible repeat (first | exact hn_ | refine blk_drewN ?_ _ | refine blk_drew ?_ | refine blk_alloc ?_ _))
      with_reducible refine blk_far ?_ (by simp <;> omega) _
      (with_reducible repeat (first | exact hn_ | refine blk_drewN ?_ _ | refine blk_drew ?_ | refine blk_alloc ?_ _))
      with_reducible refine blk_far ?_ (by simp <;> omega) _
      (with_reducible repeat (first | exact hn_ | refine blk_drewN ?_ _ | refine blk_drew ?_ | refine blk_alloc ?_ _))
    clear hW2 hB1 hP1 hM1 hR1 f0 f1 f2 f3 f4 f5 p0 p1 p2 p3 p4 p5 m0 m1 m2 m3 m4
    have p0 : W2.cell? ⟨w.heap.size, 0, none⟩ = some (.bool s0) := (blk_cell hP2 0).trans rfl
    have p1 : W2.cell? ⟨w.heap.size, 1, none⟩ = some (.bool e0) := (blk_cell hP2 1).trans rfl
    have p2 : W2.cell? ⟨w.heap.size, 2, none⟩ = some (.int .u64 n0) := (blk_cell hP2 2).trans rfl
    have p3 : W2.cell? ⟨w.heap.size, 3, none⟩ = some (.bool true) := (blk_cell hP2 3).trans rfl
    have p4 : W2.cell? ⟨w.heap.size, 4, none⟩ = some (.bool ea) := (blk_cell hP2 4).trans rfl
    have p5 : W2.cell? ⟨w.heap.size, 5, none⟩ = some (.int .u64 nd) := (blk_cell hP2 5).trans rfl
    have m0 : W2.cell? ⟨w.heap.size + 1, 0, none⟩ = some (.int .u8 0) := (blk_cell hM2 0).trans rfl
    have m1 : W2.cell? ⟨w.heap.size + 1, 1, none⟩ = some (.bool true) := (blk_cell hM2 1).trans rfl
    have m2 : W2.cell? ⟨w.heap.size + 1, 2, none⟩ = some (.bool false) := (blk_cell hM2 2).trans rfl
    have m3 : W2.cell? ⟨w.heap.size + 1, 3, none⟩ = some (.bool ea) := (blk_cell hM2 3).trans rfl
    have m4 : W2.cell? ⟨w.heap.size + 1, 4, none⟩ = some (.int .u64 nd) := (blk_cell hM2 4).trans rfl
    go_region_with (go_at_call 11; refine (carouselref14_Hear.same_at _ _ _ _ _ _ _ _ _ _ HF.out).mono ?_; rintro e' w3 ⟨rfl, hb⟩; have hB3 := carouselref14_Hear.call_b (w := w) (by repeat (with_reducible first | exact hB2 | apply below_alloc | apply below_drew1 | apply pw_below_drewN | refine carouselref14_Hear.set_b ?_ (by simp <;> omega) _)) hb; have hP3 := blk_below (g := w.heap.size) (o := .cells #[.bool s0, .bool e0, .int .u64 n0, .bool true, .bool ea, .int .u64 nd] 32 (0, 0)) (by have hn_ := hP2; (with_reducible repeat (first | exact hn_ | refine blk_drewN ?_ _ | refine blk_drew ?_ | refine blk_alloc ?_ _))) hb; have hM3 := blk_below (g := w.heap.size + 1) (o := .cells #[.int .u8 0, .bool true, .bool false, .bool ea, .int .u64 nd] 43 (0, 0)) (by have hn_ := hM2; (with_reducible repeat (first | exact hn_ | refine blk_drewN ?_ _ | refine blk_drew ?_ | refine blk_alloc ?_ _))) hb; have hR3 := blk_below (g := w.heap.size + 1 + 1) (o := .cells #[.bool false, .bool false, .int .u64 0, .bool false, .bool false, .int .u64 0] 32 (0, 0)) (by have hn_ := hR2; (with_reducible repeat (first | exact hn_ | refine blk_drewN ?_ _ | refine blk_drew ?_ | refine blk_alloc ?_ _))) hb; clear hb)
    all_goals
      clear p0 p1 p2 p3 p4 p5 m0 m1 m2 m3 m4
      have p0 : w3.cell? ⟨w.heap.size, 0, none⟩ = some (.bool s0) := (blk_cell hP3 0).trans rfl
      have p1 : w3.cell? ⟨w.heap.size, 1, none⟩ = some (.bool e0) := (blk_cell hP3 1).trans rfl
      have p2 : w3.cell? ⟨w.heap.size, 2, none⟩ = some (.int .u64 n0) := (blk_cell hP3 2).trans rfl
      have p3 : w3.cell? ⟨w.heap.size, 3, none⟩ = some (.bool true) := (blk_cell hP3 3).trans rfl
      have p4 : w3.cell? ⟨w.heap.size, 4, none⟩ = some (.bool ea) := (blk_cell hP3 4).trans rfl
      have p5 : w3.cell? ⟨w.heap.size, 5, none⟩ = some (.int .u64 nd) := (blk_cell hP3 5).trans rfl
      have r0 : w3.cell? ⟨w.heap.size + 1 + 1, 0, none⟩ = some (.bool false) := (blk_cell hR3 0).trans rfl
      have r1 : w3.cell? ⟨w.heap.size + 1 + 1, 1, none⟩ = some (.bool false) := (blk_cell hR3 1).trans rfl
      have r2 : w3.cell? ⟨w.heap.size + 1 + 1, 2, none⟩ = some (.int .u64 0) := (blk_cell hR3 2).trans rfl
      have r3 : w3.cell? ⟨w.heap.size + 1 + 1, 3, none⟩ = some (.bool false) := (blk_cell hR3 3).trans rfl
      have r4 : w3.cell? ⟨w.heap.size + 1 + 1, 4, none⟩ = some (.bool false) := (blk_cell hR3 4).trans rfl
      have r5 : w3.cell? ⟨w.heap.size + 1 + 1, 5, none⟩ = some (.int .u64 0) := (blk_cell hR3 5).trans rfl
      have f0 := blk_frozen hR3 0
      have f1 := blk_frozen hR3 1
      have f2 := blk_frozen hR3 2
      have f3 := blk_frozen hR3 3
      have f4 := blk_frozen hR3 4
      have f5 := blk_frozen hR3 5
      cases b
      all_goals
        go_wp2
        refine carouselref14_Hear.post_W (fun W5 hW5 => ?_)
        have hB5 : Below w.heap.size w W5 := by
          rw [hW5]
          repeat (with_reducible first | exact hB3 | apply below_alloc | apply below_drew1 | apply pw_below_drewN | refine carouselref14_Hear.set_b ?_ (by simp <;> omega) _)
        have hR5 : W5.heap[w.heap.size + 1 + 1]? = some (.cells #[.bool s0, .bool e0, .int .u64 n0, .bool true, .bool ea, .int .u64 nd] 32 (0, 0)) := by
          rw [hW5]
          have hn_ := hR3
          (with_reducible repeat (first | exact hn_ | refine blk_drewN ?_ _ | refine blk_drew ?_ | refine blk_alloc ?_ _))
          with_reducible refine blk_put (cs := #[.bool s0, .bool e0, .int .u64 n0, .bool true, .bool ea, .int .u64 0]) ?_ 5 _ rfl
          (with_reducible repeat (first | exact hn_ | refine blk_drewN ?_ _ | refine blk_drew ?_ | refine blk_alloc ?_ _))
          with_reducible refine blk_put (cs := #[.bool s0, .bool e0, .int .u64 n0, .bool true, .bool false, .int .u64 0]) ?_ 4 _ rfl
          (with_reducible repeat (first | exact hn_ | refine blk_drewN ?_ _ | refine blk_drew ?_ | refine blk_alloc ?_ _))
          with_reducible refine blk_put (cs := #[.bool s0, .bool e0, .int .u64 n0, .bool false, .bool false, .int .u64 0]) ?_ 3 _ rfl
          (with_reducible repeat (first | exact hn_ | refine blk_drewN ?_ _ | refine blk_drew ?_ | refine blk_alloc ?_ _))
          with_reducible refine blk_put (cs := #[.bool s0, .bool e0, .int .u64 0, .bool false, .bool false, .int .u64 0]) ?_ 2 _ rfl
          (with_reducible repeat (first | exact hn_ | refine blk_drewN ?_ _ | refine blk_drew ?_ | refine blk_alloc ?_ _))
          with_reducible refine blk_put (cs := #[.bool s0, .bool false, .int .u64 0, .bool false, .bool false, .int .u64 0]) ?_ 1 _ rfl
          (with_reducible repeat (first | exact hn_ | refine blk_drewN ?_ _ | refine blk_drew ?_ | refine blk_alloc ?_ _))
          with_reducible refine blk_put (cs := #[.bool false, .bool false, .int .u64 0, .bool false, .bool false, .int .u64 0]) ?_ 0 _ rfl
          (with_reducible repeat (first | exact hn_ | refine blk_drewN ?_ _ | refine blk_drew ?_ | refine blk_alloc ?_ _))
        have z0 : W5.cell? ⟨w.heap.size + 1 + 1, 0, none⟩ = some (.bool s0) := (blk_cell hR5 0).trans rfl
        have z1 : W5.cell? ⟨w.heap.size + 1 + 1, 1, none⟩ = some (.bool e0) := (blk_cell hR5 1).trans rfl
        have z2 : W5.cell? ⟨w.heap.size + 1 + 1, 2, none⟩ = some (.int .u64 n0) := (blk_cell hR5 2).trans rfl
        have z3 : W5.cell? ⟨w.heap.size + 1 + 1, 3, none⟩ = some (.bool true) := (blk_cell hR5 3).trans rfl
        have z4 : W5.cell? ⟨w.heap.size + 1 + 1, 4, none⟩ = some (.bool ea) := (blk_cell hR5 4).trans rfl
        have z5 : W5.cell? ⟨w.heap.size + 1 + 1, 5, none⟩ = some (.int .u64 nd) := (blk_cell hR5 5).trans rfl
        first | exact bodyPost_ret (v := .tuple #[.agg #[.bool s0, .bool e0, .int .u64 n0, .bool true, .bool ea, .int .u64 nd], .bool (true)]) (by simp [results, Try.results7, go_sem, z0, z1, z2, z3, z4, z5]) rfl ⟨rfl, hB5⟩ | exact bodyPost_ret (v := .tuple #[.agg #[.bool s0, .bool e0, .int .u64 n0, .bool true, .bool ea, .int .u64 nd], .bool (false)]) (by simp [results, Try.results7, go_sem, z0, z1, z2, z3, z4, z5]) rfl ⟨rfl, hB5⟩
theorem carouselref14_Hear.calls (a0_0 a0_1 : Bool) (a0_2 : Int) (a0_3 a0_4 : Bool) (a0_5 a1 a2_0 : Int) (a2_1 a2_2 a2_3 : Bool) (a2_4 : Int) (r1 r2 : Bool) (r3 : Int) (r4 r5 : Bool) (r6 : Int) (r7 : Bool) (w : World) (h : carouselref14_Hear.f a0_0 a0_1 a0_2 a0_3 a0_4 a0_5 a1 a2_0 a2_1 a2_2 a2_3 a2_4 = some (r1, r2, r3, r4, r5, r6, r7)) :
    Calls Try.prog 7 #[.agg #[.bool a0_0, .bool a0_1, .int .u64 a0_2, .bool a0_3, .bool a0_4, .int .u64 a0_5], .int .i64 a1, .agg #[.int .u8 a2_0, .bool a2_1, .bool a2_2, .bool a2_3, .int .u64 a2_4]] w fun e w' => e = .returned (.tuple #[.agg #[.bool r1, .bool r2, .int .u64 r3, .bool r4, .bool r5, .int .u64 r6], .bool r7]) ∧ Below w.heap.size w w' := by
  unfold carouselref14_Hear.f carouselref14_Hear.one at h
  by_cases p0 : a1 = 0
  · subst p0
    simp only [if_true] at h
    by_cases hW : (a2_0 == 0 && !a2_1) = true
    · rw [if_pos hW] at h
      simp only [Bool.and_eq_true, beq_iff_eq, Bool.not_eq_true'] at hW
      obtain ⟨h1, h2⟩ := hW
      subst h1; subst h2
      simp only [Option.some.injEq, Prod.mk.injEq] at h
      obtain ⟨rfl, rfl, rfl, rfl, rfl, rfl, rfl⟩ := h
      exact carouselref14_Hear.w0 _ _ _ _ _ _ _ _ _ w
    · rw [if_neg hW] at h
      have hW2 : (a2_0 == 0) = false ∨ (a2_0 = 0 ∧ a2_1 = true) := by
        by_cases hz : a2_0 = 0
        · right; subst hz; exact ⟨rfl, by cases a2_1 <;> simp_all⟩
        · left; simpa using hz
      clear hW
      by_cases hE : (a0_0 && (a0_1 == a2_3 && a0_2 == a2_4)) = true
      · rw [if_pos hE] at h
        simp only [Option.some.injEq, Prod.mk.injEq] at h
        obtain ⟨rfl, rfl, rfl, rfl, rfl, rfl, rfl⟩ := h
        rcases hW2 with hW | ⟨rfl, rfl⟩
        · exact carouselref14_Hear.s0a _ _ _ _ _ _ _ _ _ _ _ w hW hE
        · exact carouselref14_Hear.s0b _ _ _ _ _ _ _ _ _ w hE
      · rw [if_neg hE] at h
        have hE2 : (a0_0 && (a0_1 == a2_3 && a0_2 == a2_4)) = false := Bool.eq_false_iff.2 hE
        clear hE
        simp only [Option.some.injEq, Prod.mk.injEq] at h
        obtain ⟨rfl, rfl, rfl, rfl, rfl, rfl, rfl⟩ := h
        rcases hW2 with hW | ⟨rfl, rfl⟩
        · cases a2_2
          · exact carouselref14_Hear.d0af _ _ _ _ _ _ _ _ _ _ _ w hW hE2 rfl
          · exact carouselref14_Hear.d0at _ _ _ _ _ _ _ _ _ _ w hW hE2
        · cases a2_2
          · exact carouselref14_Hear.d0bf _ _ _ _ _ _ _ _ _ w hE2 rfl
          · exact carouselref14_Hear.d0bt _ _ _ _ _ _ _ _ w hE2
  by_cases p1 : a1 = 1
  · subst p1
    simp only [show ¬ ((1 : Int) = 0) from by decide, if_false, if_true] at h
    by_cases hW : (a2_0 == 0 && !a2_1) = true
    · rw [if_pos hW] at h
      simp only [Bool.and_eq_true, beq_iff_eq, Bool.not_eq_true'] at hW
      obtain ⟨h1, h2⟩ := hW
      subst h1; subst h2
      simp only [Option.some.injEq, Prod.mk.injEq] at h
      obtain ⟨rfl, rfl, rfl, rfl, rfl, rfl, rfl⟩ := h
      exact carouselref14_Hear.w1 _ _ _ _ _ _ _ _ _ w
    · rw [if_neg hW] at h
      have hW2 : (a2_0 == 0) = false ∨ (a2_0 = 0 ∧ a2_1 = true) := by
        by_cases hz : a2_0 = 0
        · right; subst hz; exact ⟨rfl, by cases a2_1 <;> simp_all⟩
        · left; simpa using hz
      clear hW
      by_cases hE : (a0_3 && (a0_4 == a2_3 && a0_5 == a2_4)) = true
      · rw [if_pos hE] at h
        simp only [Option.some.injEq, Prod.mk.injEq] at h
        obtain ⟨rfl, rfl, rfl, rfl, rfl, rfl, rfl⟩ := h
        rcases hW2 with hW | ⟨rfl, rfl⟩
        · exact carouselref14_Hear.s1a _ _ _ _ _ _ _ _ _ _ _ w hW hE
        · exact carouselref14_Hear.s1b _ _ _ _ _ _ _ _ _ w hE
      · rw [if_neg hE] at h
        have hE2 : (a0_3 && (a0_4 == a2_3 && a0_5 == a2_4)) = false := Bool.eq_false_iff.2 hE
        clear hE
        simp only [Option.some.injEq, Prod.mk.injEq] at h
        obtain ⟨rfl, rfl, rfl, rfl, rfl, rfl, rfl⟩ := h
        rcases hW2 with hW | ⟨rfl, rfl⟩
        · cases a2_2
          · exact carouselref14_Hear.d1af _ _ _ _ _ _ _ _ _ _ _ w hW hE2 rfl
          · exact carouselref14_Hear.d1at _ _ _ _ _ _ _ _ _ _ w hW hE2
        · cases a2_2
          · exact carouselref14_Hear.d1bf _ _ _ _ _ _ _ _ _ w hE2 rfl
          · exact carouselref14_Hear.d1bt _ _ _ _ _ _ _ _ w hE2
  · rw [if_neg p0, if_neg p1] at h
    simp only [Option.some.injEq, Prod.mk.injEq] at h
    obtain ⟨rfl, rfl, rfl, rfl, rfl, rfl, rfl⟩ := h
    exact carouselref14_Hear.far _ _ _ _ _ _ _ _ _ _ _ _ w p0 p1


end Go.Proofs.Ytbciaapkahfcaaa.PFlushHears
